/- Part 2 of what the proof stands on. -/
import Derived.Test.YtnbngknffkcefaaGreatDoorF30A
set_option linter.unusedVariables false
set_option linter.unusedSimpArgs false
set_option maxHeartbeats 4000000
set_option maxRecDepth 100000
set_option synthInstance.maxHeartbeats 400000
set_option synthInstance.maxSize 10000
open Go Gk
variable {p:Addr}{listed:Array Bool}{af:Array Edge}{fs:Array Field}{ops Ed:Array Oper}{ts:Array TypeId}{held w1 want:Bool}{R:Ending->Wo->Prop}{L L' M:AB}{fd:Field}{fn:Func}{f:FuncId}{I J:Im}{DF DI hi DM:Int}{N Bh Hs:La}{G:List (Bool×Bool)}{pl:List (Nat×Nat)}{D Os T:List Int}{rest:List Oper}{Ar key nm Ay:Lu}{args cs ds news vs xs zs:Lv}{b bytes c cap db fuel i k kb lg m n n0 nn o off size u:Nat}{spare:Nat->Bool}{ps:Nat->Int}{a a0 ka:Oa}{op:Op}{d:Option Nat}{P:Program}{S1 S2 g1 g2:Prop}{pos:String}{H X α β σ:Type}{E dst src t' ty:TypeId}{us v v0:Va}{B w:Wo}{C:Wo->Prop}{A:X1}{K K':Bk}
namespace Go.Proofs.W9
open Gk Go Tryz
abbrev yR:=fb func101 ntmps101 results101
abbrev yS:=fb func102 ntmps102 results102
abbrev yT:=fb func103 ntmps103 results103
abbrev yU:=fb func104 ntmps104 results104
abbrev i105:=fb func105 ntmps105 results105
abbrev yV:=fb func106 ntmps106 results106
abbrev i107:=fb func107 ntmps107 results107
abbrev yW:=fb func108 ntmps108 results108
abbrev i109:=fb func109 ntmps109 results109
abbrev yX:=fb func110 ntmps110 results110
abbrev yY:=fb func113 ntmps113 results113
abbrev yZ:=fb func114 ntmps114 results114
abbrev y8:=fb func115 ntmps115 results115
abbrev y9:=fb func116 ntmps116 results116
abbrev i117:=fb func117 ntmps117 results117
abbrev y_:=fb func118 ntmps118 results118
abbrev za:=fb func120 ntmps120 results120
abbrev zb:=fb func121 ntmps121 results121
abbrev zc:=fb func122 ntmps122 results122
abbrev zd:=fb func123 ntmps123 results123
abbrev i124:=fb func124 ntmps124 results124
abbrev ze:=fb func125 ntmps125 results125
abbrev zf:=fb func126 ntmps126 results126
abbrev i127:=fb func127 ntmps127 results127
abbrev zg:=fb func128 ntmps128 results128
abbrev zh:=fb func129 ntmps129 results129
abbrev i130:=fb func130 ntmps130 results130
abbrev i131:=fb func131 ntmps131 results131
abbrev zi:=fb func132 ntmps132 results132
abbrev zj:=fb func134 ntmps134 results134
abbrev zk:=fb func135 ntmps135 results135
abbrev zl:=fb func136 ntmps136 results136
abbrev zm:=fb func137 ntmps137 results137
abbrev i138:=fb func138 ntmps138 results138
abbrev i139:=fb IG ntmps139 results139
abbrev zn:=fb func140 ntmps140 results140
abbrev i141:=fb func141 ntmps141 results141
abbrev zo:=fb func142 ntmps142 results142
abbrev zp:=fb func144 ntmps144 results144
abbrev i145:=fb func145 ntmps145 results145
abbrev i146:=fb func146 ntmps146 results146
abbrev zq:=fb func147 ntmps147 results147
abbrev i148:=fb func148 ntmps148 results148
abbrev zr:=fb func149 ntmps149 results149
abbrev zt:=fb func150 ntmps150 results150
abbrev zu:=fb func151 ntmps151 results151
abbrev i152:=fb func152 ntmps152 results152
abbrev zv:=fb func153 ntmps153 results153
abbrev i154:=fb func154 ntmps154 results154
abbrev zw:=fb func155 ntmps155 results155
abbrev zx:=fb func156 ntmps156 results156
abbrev i157:=fb func157 ntmps157 results157
abbrev zy:=fb func158 ntmps158 results158
abbrev i159:=fb func159 ntmps159 results159
abbrev i160:=fb func160 ntmps160 results160
abbrev zz:=fb func161 ntmps161 results161
abbrev i162:=fb func162 ntmps162 results162
abbrev zA:=fb func163 ntmps163 results163
abbrev i164:=fb func164 ntmps164 results164
abbrev zB:=fb func165 ntmps165 results165
abbrev zC:=fb func166 ntmps166 results166
abbrev i167:=fb func167 ntmps167 results167
abbrev i168:=fb func168 ntmps168 results168
abbrev zD:=fb func169 ntmps169 results169
abbrev zE:=fb func170 ntmps170 results170
abbrev i173:=fb func173 ntmps173 results173
abbrev zF:=fb func174 ntmps174 results174
abbrev i175:=fb func175 ntmps175 results175
abbrev zG:=fb func176 ntmps176 results176
abbrev zH:=fb func177 ntmps177 results177
abbrev zI:=fb func179 ntmps179 results179
abbrev zJ:=fb func180 ntmps180 results180
abbrev zK:=fb func181 ntmps181 results181
abbrev i182:=fb func182 ntmps182 results182
abbrev i183:=fb func183 ntmps183 results183
abbrev zL:=fb func184 ntmps184 results184
abbrev zM:=fb func185 ntmps185 results185
abbrev zN:=fb func186 ntmps186 results186
abbrev zO:=fb func187 ntmps187 results187
abbrev zP:=fb func188 ntmps188 results188
abbrev zQ:=fb func189 ntmps189 results189
abbrev zR:=fb func190 ntmps190 results190
abbrev zS:=fb func192 ntmps192 results192
abbrev i194:=fb func194 ntmps194 results194
abbrev zT:=fb func195 ntmps195 results195
abbrev i196:=fb func196 ntmps196 results196
abbrev zU:=fb func197 ntmps197 results197
abbrev zV:=fb func199 ntmps199 results199
abbrev zW:=fb func200 ntmps200 results200
abbrev i201:=fb func201 ntmps201 results201
abbrev zX:=fb func202 ntmps202 results202
abbrev i203:=fb func203 ntmps203 results203
abbrev zY:=fb func204 ntmps204 results204
abbrev zZ:=fb func205 ntmps205 results205
abbrev i206:=fb func206 ntmps206 results206
abbrev z1:=fb func207 ntmps207 results207
abbrev i208:=fb func208 ntmps208 results208
abbrev z8:=fb func209 ntmps209 results209
abbrev i210:=fb func210 ntmps210 results210
abbrev z_:=fb func211 ntmps211 results211
abbrev i212:=fb func212 ntmps212 results212
abbrev Aaa:=fb func213 ntmps213 results213
abbrev Aab:=fb func214 ntmps214 results214
abbrev Aac:=fb func215 ntmps215 results215
abbrev Aad:=fb func216 ntmps216 results216
abbrev Aae:=fb func217 ntmps217 results217
abbrev i218:=fb func218 ntmps218 results218
abbrev Aaf:=fb func219 ntmps219 results219
abbrev Aag:=fb func220 ntmps220 results220
abbrev Aah:=fb func221 ntmps221 results221
abbrev i222:=fb func222 ntmps222 results222
abbrev Aai:=fb func223 ntmps223 results223
abbrev Aaj:=fb func224 ntmps224 results224
abbrev Aak:=fb func225 ntmps225 results225
abbrev i226:=fb func226 ntmps226 results226
abbrev i227:=fb func227 ntmps227 results227
abbrev i228:=fb func228 ntmps228 results228
abbrev i229:=fb func229 ntmps229 results229
abbrev Aal:=fb func230 ntmps230 results230
abbrev Aam:=fb func231 ntmps231 results231
abbrev i234:=fb IH ntmps234 results234
abbrev Aan:=fb func235 ntmps235 results235
abbrev Aao:=fb func237 ntmps237 results237
abbrev Aap:=fb func245 ntmps245 results245
abbrev Aaq:=fb func246 ntmps246 results246
abbrev Aar:=fb func247 ntmps247 results247
abbrev Aas:=fb func248 ntmps248 results248
abbrev Aat:=fb func249 ntmps249 results249
abbrev Aau:=fb func250 ntmps250 results250
abbrev Aav:=fb func251 ntmps251 results251
abbrev Aaw:=fb func252 ntmps252 results252
abbrev Aax:=fb func253 ntmps253 results253
abbrev Aay:=fb func254 ntmps254 results254
abbrev Aaz:=fb func255 ntmps255 results255
abbrev AaA:=fb func256 ntmps256 mO
abbrev AaB:=fb func257 ntmps257 results257
abbrev AaC:=fb func258 ntmps258 results258
abbrev AaD:=fb func259 ntmps259 results259
abbrev AaE:=fb func260 ntmps260 results260
abbrev AaF:=fb func261 ntmps261 results261
abbrev AaG:=fb func262 ntmps262 results262
abbrev AaH:=fb func263 ntmps263 results263
abbrev AaI:=fb func264 ntmps264 results264
abbrev AaJ:=fb II ntmps265 results265
abbrev AaK:=fb func269 ntmps269 results269
abbrev AaL:=fb func270 ntmps270 results270
abbrev AaM:=fb func271 ntmps271 results271
abbrev AaN:=fb func272 ntmps272 results272
abbrev AaO:=fb func273 ntmps273 results273
abbrev AaP:=fb func274 ntmps274 results274
abbrev AaQ:=fb func275 ntmps275 results275
abbrev AaR:=fb func276 ntmps276 results276
abbrev AaS:=fb func277 ntmps277 results277
abbrev AaT:=fb func278 ntmps278 results278
abbrev AaU:=fb func279 ntmps279 results279
abbrev AaV:=fb func280 ntmps280 results280
abbrev AaW:=fb func281 ntmps281 results281
abbrev AaX:=fb func282 ntmps282 results282
abbrev AaY:=fb func283 ntmps283 results283
abbrev AaZ:=fb func284 ntmps284 results284
abbrev Aa0:=fb func285 ntmps285 results285
abbrev Aa1:=fb func286 ntmps286 results286
abbrev Aa2:=fb func287 ntmps287 results287
abbrev Aa3:=fb func288 ntmps288 results288
abbrev Aa4:=fb func289 ntmps289 results289
abbrev Aa5:=fb func291 ntmps291 results291
abbrev Aa6:=fb func293 ntmps293 results293
abbrev Aa7:=fb func294 ntmps294 results294
abbrev Aa8:=fb func295 ntmps295 results295
abbrev Aa9:=fb func297 ntmps297 results297
abbrev Aa_:=fb func298 ntmps298 results298
abbrev Aba:=fb func299 ntmps299 results299
abbrev Abb:=fb func300 ntmps300 results300
abbrev Abc:=fb func301 ntmps301 results301
abbrev Abd:=fb func302 ntmps302 results302
abbrev Abe:=fb func303 ntmps303 results303
abbrev Abf:=fb func304 ntmps304 results304
abbrev Abg:=fb func305 ntmps305 results305
abbrev Abh:=fb func306 ntmps306 results306
abbrev Abi:=fb func307 ntmps307 results307
abbrev Abj:=fb func308 ntmps308 results308
abbrev Abk:=fb func309 ntmps309 results309
abbrev Abl:=fb func310 ntmps310 results310
abbrev Abm:=fb func311 ntmps311 results311
abbrev Abn:=fb func312 ntmps312 results312
abbrev Abo:=fb func313 ntmps313 results313
abbrev Abp:=fb func314 ntmps314 results314
abbrev Abq:=fb func315 ntmps315 results315
abbrev Abr:=fb func316 ntmps316 results316
abbrev Abs:=fb func317 ntmps317 results317
abbrev Abt:=fb func318 ntmps318 results318
abbrev Abu:=fb func319 ntmps319 results319
abbrev Abv:=fb func320 ntmps320 results320
abbrev Abw:=fb func321 ntmps321 results321
abbrev Abx:=fb func322 ntmps322 results322
abbrev Aby:=fb func323 ntmps323 results323
abbrev Abz:=fb func324 ntmps324 results324
abbrev AbA:=fb func325 ntmps325 results325
abbrev AbB:=fb func326 ntmps326 results326
abbrev AbC:=fb func335 ntmps335 results335
abbrev AbD:=fb func336 ntmps336 results336
abbrev AbE:=fb func341 ntmps341 results341
abbrev AbF:=fb func342 ntmps342 results342
abbrev AbG:=fb func343 ntmps343 results343
abbrev AbH:=fb func344 ntmps344 results344
abbrev AbI:=fb func345 ntmps345 results345
abbrev AbJ:=fb func346 ntmps346 results346
abbrev AbK:=fb func347 ntmps347 results347
abbrev AbL:=fb func348 ntmps348 results348
abbrev AbM:=fb func349 ntmps349 results349
abbrev AbN:=fb func351 ntmps351 results351
abbrev AbO:=fb func352 ntmps352 results352
abbrev AbP:=fb func364 ntmps364 results364
abbrev AbQ:=fb func365 ntmps365 results365
abbrev AbR:=fb func366 ntmps366 results366
abbrev AbS:=fb func367 ntmps367 results367
abbrev AbT:=fb func368 ntmps368 results368
abbrev AbU:=fb func369 ntmps369 results369
abbrev AbV:=fb func370 ntmps370 results370
abbrev AbW:=fb func371 ntmps371 results371
abbrev AbX:=fb func372 ntmps372 results372
abbrev AbY:=fb func373 ntmps373 results373
abbrev AbZ:=fb func374 ntmps374 results374
abbrev Ab0:=fb func375 ntmps375 results375
abbrev Ab1:=fb func376 ntmps376 results376
abbrev Ab2:=fb func377 ntmps377 results377
abbrev Ab3:=fb func378 ntmps378 results378
abbrev Ab4:=fb func379 ntmps379 results379
abbrev Ab5:=fb func380 ntmps380 results380
abbrev Ab6:=fb func381 ntmps381 results381
abbrev Ab7:=fb func382 ntmps382 results382
abbrev Ab8:=fb func383 ntmps383 results383
abbrev Ab9:=fb func384 ntmps384 results384
abbrev Ab_:=fb func385 ntmps385 results385
abbrev Aca:=fb func386 ntmps386 results386
abbrev Acb:=fb func390 ntmps390 results390
abbrev Acd:=fb func391 ntmps391 results391
abbrev Ace:=fb func392 ntmps392 results392
abbrev Acf:=fb func393 ntmps393 results393
abbrev Acg:=fb func394 ntmps394 results394
abbrev Ach:=fb func395 ntmps395 results395
abbrev Aci:=fb func396 ntmps396 results396
abbrev Acj:=fb func397 ntmps397 results397
abbrev Ack:=fb func398 ntmps398 results398
abbrev Acl:=fb func400 ntmps400 results400
abbrev Acm:=fb func401 ntmps401 results401
abbrev Acn:=fb func404 ntmps404 results404
abbrev Aco:=fb func405 ntmps405 results405
abbrev Acp:=fb func414 ntmps414 results414
abbrev Acq:=fb func416 ntmps416 results416
abbrev Acr:=fb func418 ntmps418 results418
abbrev Acs:=fb func419 ntmps419 results419
abbrev Acu:=fb func421 ntmps421 results421
abbrev Acv:=fb func422 ntmps422 results422
abbrev Acw:=fb func428 ntmps428 results428
abbrev Acx:=fb func429 ntmps429 results429
abbrev Acy:=fb func430 ntmps430 results430
abbrev Acz:=fb func431 ntmps431 results431
abbrev AcA:=fb func432 ntmps432 results432
abbrev AcB:=fb func433 ntmps433 results433
abbrev AcC:=fb func434 ntmps434 results434
abbrev AcD:=fb func435 ntmps435 results435
abbrev AcE:=fb func436 ntmps436 results436
abbrev AcF:=fb func438 ntmps438 results438
abbrev AcG:=fb func439 ntmps439 results439
abbrev AcH:=fb func440 ntmps440 results440
abbrev AcI:=fb func441 ntmps441 results441
abbrev AcJ:=fb func450 ntmps450 results450
abbrev AcK:=fb func451 ntmps451 results451
abbrev AcL:=fb func452 ntmps452 results452
abbrev AcM:=fb FL ntmps453 results453
abbrev AcN:=fb func454 ntmps454 results454
abbrev AcO:=fb func455 ntmps455 results455
abbrev AcP:=fb func456 ntmps456 results456
abbrev AcQ:=fb func457 ntmps457 results457
abbrev AcR:=fb func458 ntmps458 results458
abbrev AcS:=fb func460 ntmps460 results460
abbrev AcT:=fb func461 ntmps461 results461
abbrev AcU:=fb func466 ntmps466 results466
abbrev AcV:=fb IJ ntmps467 results467
abbrev AcW:=fb func470 ntmps470 results470
abbrev AcX:=fb func471 ntmps471 results471
abbrev AcY:=fb func476 ntmps476 results476
abbrev AcZ:=fb func477 ntmps477 results477
abbrev Ac0:=fb func478 ntmps478 results478
instance:Fo prog 26 0 0:=fo KH O O9
instance:Fo prog 26 1 7:=fo KH O O9
instance:Fo prog 26 2 14:=fo KH O O9
instance:Fo prog 29 0 0:=fo Gu O sizeOf22
instance:Fo prog 29 1 1:=fo Gu O sizeOf23
instance:Fo prog 29 2 2:=fo Gu O HA
instance:Fo prog 29 3 23:=fo Gu O Bl
instance:Fo prog 29 4 24:=fo Gu O E2
instance:Fo prog 29 5 25:=fo Gu O E2
instance:Fo prog 29 6 26:=fo Gu O E2
instance:Fo prog 29 7 27:=fo Gu O Bl
instance:Fo prog 36 0 0:=fo KI O Bl
instance:Fo prog 36 1 1:=fo KI O AQ
instance:Fo prog 36 2 2:=fo KI O Bl
instance:Fo prog 36 3 3:=fo KI O sizeOf33
instance:Fo prog 36 4 4:=fo KI O sizeOf34
instance:Fo prog 51 0 0:=fo Pd O AQ
instance:Fo prog 51 1 1:=fo Pd O AQ
instance:Fo prog 51 2 2:=fo Pd O Gr
instance:Fo prog 51 3 3:=fo Pd O AQ
instance:Fo prog 58 0 0:=fo iu O AQ
instance:Fo prog 58 1 1:=fo iu O AQ
instance:Fo prog 61 0 0:=fo ZR O Bl
instance:Fo prog 61 1 1:=fo ZR O Gr
instance:Fo prog 61 2 2:=fo ZR O AQ
instance:Fo prog 85 0 0:=fo E3 O O_
instance:Fo prog 85 1 1:=fo E3 O sizeOf81
instance:Fo prog 85 2 2:=fo E3 O sizeOf82
instance:Fo prog 85 3 3:=fo E3 O sizeOf83
instance:Fo prog 85 4 4:=fo E3 O HA
instance:Fo prog 85 5 25:=fo E3 O Bl
instance:Fo prog 90 0 0:=fo Pe O sizeOf86
instance:Fo prog 90 1 1:=fo Pe O S5
instance:Fo prog 90 2 2:=fo Pe O S6
instance:Fo prog 94 0 0:=fo Pf O sizeOf91
instance:Fo prog 94 1 1:=fo Pf O sizeOf92
instance:Fo prog 94 2 2:=fo Pf O sizeOf34
instance:Fo prog 94 3 3:=fo Pf O DO
instance:Fo prog 94 4 4:=fo Pf O Bl
instance:Fo prog 117 0 0:=fo Zl O S5
instance:Fo prog 117 1 1:=fo Zl O S6
instance:Fo prog 117 2 2:=fo Zl O Gr
instance:Fo prog 117 3 3:=fo Zl O AQ
instance:Fo prog 117 4 4:=fo Zl O ZP
instance:Fo prog 117 5 7:=fo Zl O AQ
instance:Fo prog 117 6 8:=fo Zl O DO
instance:Fo prog 124 0 0:=fo Zm O AQ
instance:Fo prog 124 1 1:=fo Zm O AQ
instance:Fo prog 126 0 0:=fo FP O Bl
instance:Fo prog 126 1 1:=fo FP O AQ
instance:Fo prog 126 2 2:=fo FP O AQ
instance:Fo prog 126 3 3:=fo FP O AQ
instance:Fo prog 126 4 4:=fo FP O AQ
instance:Fo prog 126 5 5:=fo FP O AQ
instance:Fo prog 126 6 6:=fo FP O Bl
instance:Fo prog 126 7 7:=fo FP O Bl
instance:Fo prog 126 8 8:=fo FP O Bl
instance:Fo prog 126 9 9:=fo FP O DO
instance:Fo prog 128 0 0:=fo aF O AQ
instance:Fo prog 128 1 1:=fo aF O AQ
instance:Fo prog 128 2 2:=fo aF O Bl
instance:Fo prog 128 3 3:=fo aF O Bl
instance:Fo prog 133 0 0:=fo G9 O Bl
instance:Fo prog 133 1 1:=fo G9 O E2
instance:Fo prog 133 2 2:=fo G9 O AQ
instance:Fo prog 133 3 3:=fo G9 O DO
instance:Fo prog 133 4 4:=fo G9 O DO
instance:Fo prog 133 5 5:=fo G9 O DO
instance:Fo prog 133 6 6:=fo G9 O AQ
instance:Fo prog 133 7 7:=fo G9 O IV
instance:Fo prog 135 0 0:=fo fF O AQ
instance:Fo prog 135 1 1:=fo fF O AQ
instance:Fo prog 135 2 2:=fo fF O Gr
instance:Fo prog 140 0 0:=fo Zn O AQ
instance:Fo prog 140 1 1:=fo Zn O Gr
instance:Fo prog 140 2 2:=fo Zn O AQ
instance:Fo prog 140 3 3:=fo Zn O sizeOf136
instance:Fo prog 147 0 0:=fo Mv O AQ
instance:Fo prog 147 1 1:=fo Mv O AQ
instance:Fo prog 147 2 2:=fo Mv O AQ
instance:Fo prog 156 0 0:=fo S7 O Bl
instance:Fo prog 156 1 1:=fo S7 O sizeOf42
instance:Fo prog 159 1 1:=fo jd O E2
instance:Fo prog 159 2 2:=fo jd O E2
instance:Fo prog 159 3 3:=fo jd O E2
instance:Fo prog 159 4 4:=fo jd O sizeOf44
instance:Fo prog 161 0 0:=fo underlying161 O sizeOf33
instance:Fo prog 172 0 0:=fo underlying172 O AQ
instance:Fo prog 211 0 0:=fo Mx O AQ
instance:Fo prog 211 1 1:=fo Mx O AQ
instance:Fo prog 211 2 2:=fo Mx O AQ
instance:Fo prog 234 0 0:=fo je O AQ
instance:Fo prog 234 1 1:=fo je O AQ
instance:Fo prog 234 2 2:=fo je O DO
instance:Fo prog 234 3 3:=fo je O DO
instance:Fo prog 234 4 4:=fo je O DO
instance:Fo prog 234 5 5:=fo je O DO
instance:Fo prog 246 0 0:=fo IX O AQ
instance:Fo prog 246 1 1:=fo IX O Gr
instance:Fo prog 246 2 2:=fo IX O IV
instance:Fo prog 246 3 3:=fo IX O AQ
instance:Fo prog 257 0 0:=fo mT O AQ
instance:Fo prog 257 1 1:=fo mT O AQ
instance:Fo prog 257 2 2:=fo mT O DO
instance:Fo prog 273 0 0:=fo S9 O sizeOf271
instance:Fo prog 273 1 1:=fo S9 O sizeOf269
instance:Fo prog 302 0 0:=fo jg O AQ
instance:Fo prog 302 1 1:=fo jg O AQ
instance:Fo prog 302 2 2:=fo jg O Bl
instance:Fo prog 302 3 3:=fo jg O AQ
instance:Fo prog 302 4 4:=fo jg O AQ
instance:Fo prog 302 5 5:=fo jg O DO
instance:Fo prog 309 0 0:=fo fH O Mt
instance:Fo prog 309 1 1:=fo fH O Gz
instance:Fo prog 349 0 0:=fo jh O AQ
instance:Fo prog 349 1 1:=fo jh O AQ
instance:Fo prog 349 2 2:=fo jh O AQ
instance:Fo prog 349 3 3:=fo jh O Bl
instance:Fo prog 349 4 4:=fo jh O DO
instance:Fo prog 349 5 5:=fo jh O DO
instance:Fo prog 352 0 0:=fo I0 O AQ
instance:Fo prog 352 1 1:=fo I0 O AQ
instance:Fo prog 352 2 2:=fo I0 O DO
instance:Fo prog 352 3 3:=fo I0 O DO
instance:Fo prog 368 0 0:=fo fI O Bl
instance:Fo prog 368 1 1:=fo fI O Bl
instance:Fo prog 368 2 2:=fo fI O Bl
instance:Fo prog 370 0 0:=fo Sa O S4
instance:Fo prog 370 1 1:=fo Sa O Ik
instance:Fo prog 370 2 4:=fo Sa O Gz
instance:Fo prog 378 0 0:=fo I5 O HF
instance:Fo prog 378 1 8:=fo I5 O sizeOf376
instance:Fo prog 378 2 9:=fo I5 O sizeOf376
instance:Fo prog 382 0 0:=fo I6 O IU
instance:Fo prog 386 0 0:=fo Mz O sizeOf384
instance:Fo prog 467 0 0:=fo Tc O Bl
instance:Fo prog 467 1 1:=fo Tc O Gt
instance:Fo prog 501 0 0:=fo MD O sizeOf498
instance:Fo prog 501 1 1:=fo MD O sizeOf499
instance:Fo prog 501 2 2:=fo MD O mP
instance:Fo prog 504 0 0:=fo Te O sizeOf498
instance:Fo prog 504 1 1:=fo Te O Bl
instance:Fo prog 522 0 0:=fo ME O DT
instance:Fo prog 522 1 1:=fo ME O DT
instance:Fo prog 522 2 2:=fo ME O mP
instance:Mp prog 3 (Ab 0) 1 8:=⟨t3,by kernel_rfl,O,O,O,O⟩
instance:Mp prog 5 (.int .u8 0) 1 1:=⟨t5,by kernel_rfl,O,O,O,O⟩
instance:Mp prog 9 (S []) 1 16:=⟨t9,by kernel_rfl,O,O,O,O⟩
instance:Mp prog 27 (.float .f64 0) 1 8:=⟨t27,by kernel_rfl,O,O,O,O⟩
instance:Mp prog 46 (.slice none 0 0) 1 24:=⟨t46,by kernel_rfl,O,O,O,O⟩
instance:Mp prog 121 (.slice none 0 0) 1 24:=⟨t121,by kernel_rfl,O,O,O,O⟩
instance:Mp prog 124 (.agg #[S [],S []]) 2 32:=⟨t124,by kernel_rfl,O,O,O,O⟩
instance:Mp prog 126 (.agg #[Ab 0,S [],S [],S [],S [],S [],Ab 0,Ab 0,Ab 0,.bool false]) 10 120:=⟨t126,by kernel_rfl,O,O,O,O⟩
instance:Mp prog 128 (.agg #[S [],S [],Ab 0,Ab 0]) 4 48:=⟨t128,by kernel_rfl,O,O,O,O⟩
instance:Mp prog 140 (.agg #[S [],.slice none 0 0,S [],.slice none 0 0]) 4 80:=⟨t140,by kernel_rfl,O,O,O,O⟩
instance:Mp prog 257 (.agg #[S [],S [],.bool false]) 3 40:=⟨t257,by kernel_rfl,O,O,O,O⟩
instance:Mp prog 378 (.agg #[Ab 0,.float .f64 0,S [],.bool false,.bool false,.bool false,S [],.slice none 0 0,.pointer none,.pointer none]) 10 96:=⟨t378,by kernel_rfl,O,O,O,O⟩
instance:Mp prog 522 (.agg #[.int .u8 0,.int .u8 0,.slice none 0 0]) 3 32:=⟨t522,by kernel_rfl,O,O,O,O⟩
instance:Sz prog 3 1:=⟨Bl⟩
instance:Sz prog 4 1:=⟨DO⟩
instance:Sz prog 5 1:=⟨DT⟩
instance:Sz prog 9 1:=⟨AQ⟩
instance:Sz prog 27 1:=⟨E2⟩
instance:Sz prog 29 28:=⟨IQ⟩
instance:Sz prog 33 1:=⟨sizeOf33⟩
instance:Sz prog 34 1:=⟨sizeOf34⟩
instance:Sz prog 36 5:=⟨sizeOf36⟩
instance:Sz prog 39 1:=⟨IV⟩
instance:Sz prog 42 1:=⟨sizeOf42⟩
instance:Sz prog 44 1:=⟨sizeOf44⟩
instance:Sz prog 46 1:=⟨Gz⟩
instance:Sz prog 49 1:=⟨Gr⟩
instance:Sz prog 51 4:=⟨sizeOf51⟩
instance:Sz prog 58 2:=⟨sizeOf58⟩
instance:Sz prog 61 3:=⟨ZP⟩
instance:Sz prog 62 1:=⟨sizeOf62⟩
instance:Sz prog 73 1:=⟨sizeOf73⟩
instance:Sz prog 87 1:=⟨S5⟩
instance:Sz prog 88 1:=⟨S6⟩
instance:Sz prog 92 1:=⟨sizeOf92⟩
instance:Sz prog 96 32:=⟨Gt⟩
instance:Sz prog 121 1:=⟨mP⟩
instance:Sz prog 124 2:=⟨Ij⟩
instance:Sz prog 126 10:=⟨Jf⟩
instance:Sz prog 128 4:=⟨R_⟩
instance:Sz prog 133 8:=⟨HF⟩
instance:Sz prog 135 3:=⟨aD⟩
instance:Sz prog 136 1:=⟨sizeOf136⟩
instance:Sz prog 140 4:=⟨mQ⟩
instance:Sz prog 147 3:=⟨sizeOf147⟩
instance:Sz prog 151 1:=⟨sizeOf151⟩
instance:Sz prog 159 5:=⟨sizeOf159⟩
instance:Sz prog 211 3:=⟨mR⟩
instance:Sz prog 234 6:=⟨sizeOf234⟩
instance:Sz prog 246 4:=⟨sizeOf246⟩
instance:Sz prog 257 3:=⟨mS⟩
instance:Sz prog 269 1:=⟨sizeOf269⟩
instance:Sz prog 302 6:=⟨sizeOf302⟩
instance:Sz prog 307 1:=⟨Mt⟩
instance:Sz prog 349 6:=⟨sizeOf349⟩
instance:Sz prog 352 4:=⟨sizeOf352⟩
instance:Sz prog 368 3:=⟨Ik⟩
instance:Sz prog 378 10:=⟨jc⟩
instance:Sz prog 422 1:=⟨sizeOf422⟩
instance:Sz prog 467 33:=⟨fE⟩
instance:Sz prog 498 1:=⟨sizeOf498⟩
instance:Sz prog 499 1:=⟨sizeOf499⟩
instance:Sz prog 522 3:=⟨Mu⟩
instance:Un prog 3 (.int .i64):=⟨B1⟩
instance:Un prog 5 (.int .u8):=⟨BP⟩
instance:Un prog 9 .string:=⟨A8⟩
instance:Un prog 22 (.slice 133):=⟨MW⟩
instance:Un prog 23 (.slice 135):=⟨underlying23⟩
instance:Un prog 30 (.slice 36):=⟨ZQ⟩
instance:Un prog 33 (.slice 73):=⟨S_⟩
instance:Un prog 34 (.slice 4):=⟨Pb⟩
instance:Un prog 37 (.pointer 94):=⟨underlying37⟩
instance:Un prog 38 (.pointer 90):=⟨underlying38⟩
instance:Un prog 39 (.slice 9):=⟨D6⟩
instance:Un prog 42 (.slice 126):=⟨KK⟩
instance:Un prog 44 (.slice 128):=⟨FM⟩
instance:Un prog 46 (.slice 5):=⟨BV⟩
instance:Un prog 49 (.slice 124):=⟨Iq⟩
instance:Un prog 73 (.int .u64):=⟨Ti⟩
instance:Un prog 91 (.slice 96):=⟨underlying91⟩
instance:Un prog 92 (.slice 467):=⟨iv⟩
instance:Un prog 121 (.slice 3):=⟨aE⟩
instance:Un prog 136 (.slice 140):=⟨underlying136⟩
instance:Un prog 182 (.slice 257):=⟨Mw⟩
instance:Un prog 276 (.slice 46):=⟨IZ⟩
instance:Un prog 307 (.pointer 309):=⟨mU⟩
instance:Un prog 374 (.slice 378):=⟨I3⟩
instance:Un prog 375 (.slice 27):=⟨I4⟩
instance:Un prog 453 (.slice 151):=⟨MB⟩
-- Un 475
instance:Un prog 498 (.slice 522):=⟨underlying498⟩
instance:Un prog 499 (.slice 121):=⟨underlying499⟩
instance:Zv prog 3 (Ab 0):=⟨Ph⟩
instance:Zv prog 5 (.int .u8 0):=⟨MG⟩
instance:Zv prog 9 (S []):=⟨KL⟩
instance:Zv prog 27 (.float .f64 0):=⟨zeroValue27⟩
instance:Zv prog 29 (.agg #[.slice none 0 0,.slice none 0 0,Ab 0,Ab 0,Ab 0,Ab 0,Ab 0,Ab 0,Ab 0,Ab 0,Ab 0,Ab 0,Ab 0,Ab 0,Ab 0,Ab 0,Ab 0,Ab 0,Ab 0,Ab 0,Ab 0,Ab 0,Ab 0,Ab 0,.float .f64 0,.float .f64 0,.float .f64 0,Ab 0]):=⟨zeroValue29⟩
instance:Zv prog 39 (.slice none 0 0):=⟨ZS⟩
instance:Zv prog 46 (.slice none 0 0):=⟨ZT⟩
instance:Zv prog 51 (.agg #[S [],S [],.slice none 0 0,S []]):=⟨iz⟩
instance:Zv prog 58 (.agg #[S [],S []]):=⟨zeroValue58⟩
instance:Zv prog 61 (.agg #[Ab 0,.slice none 0 0,S []]):=⟨zeroValue61⟩
instance:Zv prog 62 (Ab 0):=⟨zeroValue62⟩
instance:Zv prog 73 (.int .u64 0):=⟨zeroValue73⟩
instance:Zv prog 85 (.agg #[.pointer none,.pointer none,.pointer none,.pointer none,Ab 0,Ab 0,Ab 0,Ab 0,Ab 0,Ab 0,Ab 0,Ab 0,Ab 0,Ab 0,Ab 0,Ab 0,Ab 0,Ab 0,Ab 0,Ab 0,Ab 0,Ab 0,Ab 0,Ab 0,Ab 0,Ab 0]):=⟨zeroValue85⟩
instance:Zv prog 121 (.slice none 0 0):=⟨zeroValue121⟩
instance:Zv prog 124 (.agg #[S [],S []]):=⟨Tj⟩
instance:Zv prog 126 (.agg #[Ab 0,S [],S [],S [],S [],S [],Ab 0,Ab 0,Ab 0,.bool false]):=⟨Tl⟩
instance:Zv prog 128 (.agg #[S [],S [],Ab 0,Ab 0]):=⟨Tm⟩
instance:Zv prog 133 (.agg #[Ab 0,.float .f64 0,S [],.bool false,.bool false,.bool false,S [],.slice none 0 0]):=⟨zeroValue133⟩
instance:Zv prog 135 (.agg #[S [],S [],.slice none 0 0]):=⟨I8⟩
instance:Zv prog 140 (.agg #[S [],.slice none 0 0,S [],.slice none 0 0]):=⟨zeroValue140⟩
instance:Zv prog 147 (.agg #[S [],S [],S []]):=⟨zeroValue147⟩
instance:Zv prog 151 (.nilFunc):=⟨zeroValue151⟩
instance:Zv prog 159 (.agg #[Ab 0,.float .f64 0,.float .f64 0,.float .f64 0,.slice none 0 0]):=⟨zeroValue159⟩
instance:Zv prog 211 (.agg #[S [],S [],S []]):=⟨zeroValue211⟩
instance:Zv prog 234 (.agg #[S [],S [],.bool false,.bool false,.bool false,.bool false]):=⟨zeroValue234⟩
instance:Zv prog 246 (.agg #[S [],.slice none 0 0,.slice none 0 0,S []]):=⟨zeroValue246⟩
instance:Zv prog 257 (.agg #[S [],S [],.bool false]):=⟨zeroValue257⟩
instance:Zv prog 302 (.agg #[S [],S [],Ab 0,S [],S [],.bool false]):=⟨zeroValue302⟩
instance:Zv prog 309 (.agg #[.pointer none,.slice none 0 0]):=⟨Tn⟩
instance:Zv prog 368 (.agg #[Ab 0,Ab 0,Ab 0]):=⟨zeroValue368⟩
instance:Zv prog 378 (.agg #[Ab 0,.float .f64 0,S [],.bool false,.bool false,.bool false,S [],.slice none 0 0,.pointer none,.pointer none]):=⟨To⟩
instance:Zv prog 422 (.nilFunc):=⟨zeroValue422⟩
instance:Zv prog 522 (.agg #[.int .u8 0,.int .u8 0,.slice none 0 0]):=⟨zeroValue522⟩
attribute [instance] i3 i4 i5 i6 i7 i8 i9 i10 i11 i12 i13 i14 i15 i16 i17 i18 i19 i20 i21 i22 i23 i24 i25 i26 i27 i28 i29 i30 i31 i32 i33 i34 i35 i36 i37 i38 i39 i40 i41 i42 i43 i44 i45 i46 i47 i48 i49 i50 i51 i52 i53 i54 i55 i56 i57 i58 i59 i60 i61 i62 i64 i65 i66 i67 i68 i69 i70 i71 i72 i73 i74 i75 i76 i77 i78 i79 i80 i81 i82 i83 i84 i85 i86 i87 i88 i89 i90 i91 i92 i93 i94 i95 i96 i97 i98 i99 yQ yR yS yT yU i105 yV i107 yW i109 yX yY yZ y8 y9 i117 y_ za zb zc zd i124 ze zf i127 zg zh i130 i131 zi zj zk zl zm i138 i139 zn i141 zo zp i145 i146 zq i148 zr zt zu i152 zv i154 zw zx i157 zy i159 i160 zz i162 zA i164 zB zC i167 i168 zD zE i173 zF i175 zG zH zI zJ zK i182 i183 zL zM zN zO zP zQ zR zS i194 zT i196 zU zV zW i201 zX i203 zY zZ i206 z1 i208 z8 i210 z_ i212 Aaa Aab Aac Aad Aae i218 Aaf Aag Aah i222 Aai Aaj Aak i226 i227 i228 i229 Aal Aam i234 Aan Aao Aap Aaq Aar Aas Aat Aau Aav Aaw Aax Aay Aaz AaA AaB AaC AaD AaE AaF AaG AaH AaI AaJ AaK AaL AaM AaN AaO AaP AaQ AaR AaS AaT AaU AaV AaW AaX AaY AaZ Aa0 Aa1 Aa2 Aa3 Aa4 Aa5 Aa6 Aa7 Aa8 Aa9 Aa_ Aba Abb Abc Abd Abe Abf Abg Abh Abi Abj Abk Abl Abm Abn Abo Abp Abq Abr Abs Abt Abu Abv Abw Abx Aby Abz AbA AbB AbC AbD AbE AbF AbG AbH AbI AbJ AbK AbL AbM AbN AbO AbP AbQ AbR AbS AbT AbU AbV AbW AbX AbY AbZ Ab0 Ab1 Ab2 Ab3 Ab4 Ab5 Ab6 Ab7 Ab8 Ab9 Ab_ Aca Acb Acd Ace Acf Acg Ach Aci Acj Ack Acl Acm Acn Aco Acp Acq Acr Acs Acu Acv Acw Acx Acy Acz AcA AcB AcC AcD AcE AcF AcG AcH AcI AcJ AcK AcL AcM AcN AcO AcP AcQ AcR AcS AcT AcU AcV AcW AcX AcY AcZ Ac0
end Go.Proofs.W9
namespace Pc
def plain(c:Ui):Bool:=(97<=c&&c<=122)||(65<=c&&c<=90)||(48<=c&&c<=57)||c==45||c==46||c==95||c==126
def Cq(c:Ui):Int:=if 48<=c&&c<=57 then c.toNat-48 else if 97<=c&&c<=102 then c.toNat-87 else if 65<=c&&c<=70 then c.toNat-55 else -1
def cP(n:Nat):Ui:=if n<10 then UInt8.ofNat (48+n)else UInt8.ofNat (55+n)
def Fc(c:Ui):Lu:=[37,cP (c.toNat/16),cP (c.toNat%16)]
def GC(c:Ui):Lu:=if plain c then[c]else Fc c
def byteOf(a b:Ui):Ui:=UInt8.ofNat (16*Cq a+Cq b).toNat
def told:List UInt8->Option UInt8
 | a::b::_=>if Cq a<0\/Cq b<0 then none else some (byteOf a b)
 | _=>none
def js:Nat->List UInt8->Option (List UInt8)
 | 0,_=>some []
 | _+1,[]=>some []
 | f+1,c::r=>if c=37 then match told r with
   | none=>none
   | some v=>(js f (r.drop 2)).map (GC v++·)
  else(js f r).map (c::·)
def D7(s:Lu):Option Lu:=js (s.length+1) s
theorem Z4{r:Lu}{v:Ui}(h:told r=some v):2<=r.length:=by
 match r,h with
 | a::b::_,_=>simp
 | [_],h=>simp[told]at h
 | [],h=>simp[told]at h
theorem vW:∀(f g:Nat) (s:Lu),s.length<f->s.length<g->js f s=js g s
 | 0,_,_,h,_=>by omega
 | _+1,0,_,_,h=>by omega
 | f+1,g+1,[],_,_=>rfl
 | f+1,g+1,c::r,a,b=>by
  simp only[js]
  split
  ·cases d:told r with
   | none=>rfl
   | some v =>
    simp only
    have:=Z4 d
    simp only[Y5]at a b
    rw[vW f g (r.drop 2) (by rw[Y6];omega) (by rw[Y6];omega)]
  ·simp only[Y5]at a b
   rw[vW f g r om om]
theorem oO:D7 []=some []:=rfl
theorem iJ(c:Ui)(r:Lu):D7 (c::r)=if c=37 then match told r with
   | none=>none
   | some v=>(D7 (r.drop 2)).map (GC v++·)
  else(D7 r).map (c::·):=by
 unfold D7;simp only[Y5,js]
 split
 ·cases a:told r with
  | none=>rfl
  | some v =>
   simp only
   have:=Z4 a
   rw[vW (r.length+1) ((r.drop 2).length+1) (r.drop 2) (by rw[Y6];omega) om]
 ·rfl
theorem fh(c:Ui):Cq c=-1\/(0<=Cq c/\Cq c<=15):=by
 unfold Cq;simp only[Y8,dq1,nw]
 have a:(48:Ui).toNat=48:=rfl;have b:(57:Ui).toNat=57:=rfl;have d:(97:Ui).toNat=97:=rfl;have e:(102:Ui).toNat=102:=rfl;have f:(65:Ui).toNat=65:=rfl;have g:(70:Ui).toNat=70:=rfl;rw[a,b,d,e,f,g];split
 ·right;omega
 ·split
  ·right;omega
  ·split
   ·right;omega
   ·left;rfl
theorem Xw1:∀(s t:Lu),D7 s=some t->t.length<=s.length:=by
 intro s
 induction hn:s.length using Nat.strongRecOn generalizing s with
 | _ n d =>
  intro t h;cases s with
  | nil=>rw[oO]at h;injection h with h;subst h;simp
  | cons c r =>
   rw[iJ]at h;simp only[Y5]at hn
   split at h
   ·cases b:told r with
    | none=>rw[b]at h;cases h
    | some v =>
     rw[b]at h;simp only at h
     have e:=Z4 b;cases a:D7 (r.drop 2)with
     | none=>rw[a]at h;cases h
     | some u =>
      rw[a]at h;simp at h
      subst h
      have:=d (r.drop 2).length (by rw[Y6];omega) (r.drop 2) O u a
      rw[Y6]at this;rw[Y0]
      have:(GC v).length<=3:=by unfold GC;split<;>simp[Fc]
      omega
   ·cases a:D7 r with
    | none=>rw[a]at h;cases h
    | some u =>
     rw[a]at h;simp at h
     subst h
     have:=d r.length om r O u a
     simp only[Y5]
     omega
theorem Xc{p:Ui->Bool}(h:(List.range 256).all (λn=>p (UInt8.ofNat n))=true)(c:Ui):p c=true:=by
 have:=Dj.1 h c.toNat (gq.2 c.toNat_lt)
 simpa using this
def ie:Lu:=[48,49,50,51,52,53,54,55,56,57,97,98,99,100,101,102]
def CU:Lu:=[48,49,50,51,52,53,54,55,56,57,65,66,67,68,69,70]
theorem cO{c:Ui}(h:i<16)(a:ie.getD i 0=c\/CU.getD i 0=c):Cq c=(i:Int):=by
 have:=Xc (p:=λc=>(List.range 16).all λi=>!(ie.getD i 0==c||CU.getD i 0==c)||Cq c==(i:Int)) dk c
 have:=Dj.1 this i (gq.2 h)
 simp only[EC,PR,EB,beq_eq_false_iff_ne,beq_iff_eq]at this
 rcases this with⟨b,d⟩|b
 ·rcases a with a|a
  ·exact Yz a b
  ·exact Yz a d
 ·exact b
theorem Vr{c:Ui}(h:∀i,i<16->ie.getD i 0≠c/\CU.getD i 0≠c):Cq c=-1:=by
 have:=Xc (p:=λc=>(List.range 16).any (λi=>ie.getD i 0==c||CU.getD i 0==c)||Cq c == -1) dk c
 simp only[EC,beq_iff_eq]at this
 rcases this with b|b
 ·obtain⟨i,hi,a⟩:=gh.1 b;simp only[EC,beq_iff_eq]at a
  have:=h i (gq.1 hi)
  rcases a with a|a
  ·exact Yz a this.1
  ·exact Yz a this.2
 ·exact b
theorem Xcv(a b:Ui)(e:0<=Cq a)(f:0<=Cq b):((byteOf a b).toNat:Int)=16*Cq a+Cq b:=by
 have c:=fh a;have d:=fh b;unfold byteOf
 rw[yn];omega
end Pc
namespace Ul
open Pc Gk
def lo(c:Ui):Ui:=if 65<=c&&c<=90 then c+32 else c
def low(s:Lu):Lu:=s.map lo
theorem fu(s:Lu):(low s).length=s.length:=Yj ..
def Kv(s:Lu)(i:Nat):Lu:=low (s.take i)++s.drop i
theorem mid_zero(s:Lu):Kv s 0=s:=by simp[Kv,low]
theorem mid_end(s:Lu)(i:Nat)(h:s.length<=i):Kv s i=low s:=by
 simp[Kv,Yo h,Yb h]
theorem N2(s:Lu)(i:Nat):(Kv s i).length=s.length:=by
 simp[Kv,low];omega
theorem V2(s:Lu)(i:Nat)(h:i<s.length):(Kv s i)[i]?=some (at_ s i):=by
 have e:(low (s.take i)).length=i:=by rw[fu,Yl];omega
 unfold Kv;rw[Yw om,e,jN,X7 s h];rfl
theorem Xvz(s:Lu)(i:Nat)(h:i<s.length):(Kv s i).set i (lo (at_ s i))=Kv s (i+1):=by
 have e:(low (s.take i)).length=i:=by rw[fu,Yl];omega
 unfold Kv;rw[nu _ _ om,e,jN,X7 s h,List.set_cons_zero,Yv,low,low,Yn,Yg]
 congr 1
 have:s[i]?=some (at_ s i):=by
  rw[Y2 h,at_,Yd,Yf,Y2 h];rfl
 rw[this];rfl
theorem qv{c:Ui}(h:65<=(c.toNat:Int)/\(c.toNat:Int)<=90):((lo c).toNat:Int)=c.toNat+32:=by
 have d:(65<=c&&c<=90)=true:=by
  simp only[Y8,dq1,nw]
  have a:(65:Ui).toNat=65:=rfl;have b:(90:Ui).toNat=90:=rfl;rw[a,b];omega
 rw[lo,Y9 d,UInt8.toNat_add]
 have:(32:Ui).toNat=32:=rfl
 rw[this];omega
theorem qs{c:Ui}(h:¬ (65<=(c.toNat:Int)/\(c.toNat:Int)<=90)):lo c=c:=by
 have d:¬ (65<=c&&c<=90)=true:=by
  simp only[Y8,dq1,nw]
  have a:(65:Ui).toNat=65:=rfl;have b:(90:Ui).toNat=90:=rfl;rw[a,b];omega
 rw[lo,Y3 d]
theorem XA{l:List α}{a:α}(h:l[i]?=some a):l.set i a=l:=by
 apply PS
 intro j;rw[nG];split
 ·rename_i e
  subst e;rw[h,Y9 (Y1.1 h).1]
 ·rfl
theorem V3(s:Lu)(i:Nat)(h:i<s.length)(a:lo (at_ s i)=at_ s i):Kv s i=Kv s (i+1):=by
 rw[<-Xvz s i h,a];exact(XA (V2 s i h)).symm
def Jz(c:Ui):Bool:=plain c&&!(c==95||c==126)
def fA(s:Lu):Bool:=!(s.isEmpty||decide (64<s.length))&&s.all Jz
theorem Xop(c:Ui):((!plain c||((c.toNat:Int)==95))||((c.toNat:Int)==126))=!Jz c :=
 eq_of_beq (Xc (p:=λc=>((!plain c||((c.toNat:Int)==95))||((c.toNat:Int)==126))==!Jz c) dk c)
def re:Lu:=[34,60,62,35,92,94,123,124,125,96]
def fC(c:Ui):Bool:=(33<=c&&c<=126)&&!re.contains c
theorem Xja(c:Ui):((decide ((c.toNat:Int)<33)||decide (126<(c.toNat:Int)))||decide (0<=Go.Lib.indexByte re c))=!fC c :=
 eq_of_beq (Xc (p:=λc=>((decide ((c.toNat:Int)<33)||decide (126<(c.toNat:Int)))||decide (0<=Go.Lib.indexByte re c))==!fC c) dk c)
theorem mz{p:Ui->Bool}{s:Lu}(h:∀j,j<i->j<s.length->p (at_ s (j:Int))=true)(hi:s.length<=i):s.all p=true:=by
 rw[Dj];intro x hx;obtain⟨j,a,e⟩:=List.mem_iff_getElem.1 hx
 have:=h j om a
 rw[at_,Yd,Yf,Y2 a]at this;rw[<-e];exact this
theorem oU{p:Ui->Bool}{s:Lu}(hi:i<s.length)(h:p (at_ s (i:Int))=false):s.all p=false:=by
 rw[jE];refine⟨at_ s (i:Int),?_,by rw[h];decide⟩;rw[at_,Yd,Yf,Y2 hi];exact jG _
def Km(c:Ui):Bool:=48<=c&&c<=57
def val(s:Lu):Nat:=s.foldl (λn c=>10*n+(c.toNat-48)) 0
def Gf(s:Lu):Bool:=s.all Km&&!(s.headD 0==48)&&decide (1<=val s)&&decide (val s<=65535)
theorem Xur(c:Ui):(decide ((c.toNat:Int)<48)||decide (57<(c.toNat:Int)))=!Km c :=
 eq_of_beq (Xc (p:=λc=>(decide ((c.toNat:Int)<48)||decide (57<(c.toNat:Int)))==!Km c) dk c)
theorem OJ(s:Lu)(c:Ui):val (s++[c])=10*val s+(c.toNat-48):=by simp[val,M7]
theorem oR(s:Lu)(i:Nat)(h:i<s.length):val (s.take (i+1))=10*val (s.take i)+((at_ s (i:Int)).toNat-48):=by
 have:s[i]?=some (at_ s i):=by
  rw[Y2 h,at_,Yd,Yf,Y2 h];rfl
 rw[Yv,this];exact OJ _ _
theorem YJ(s:Lu):∀(i j:Nat),i<=j->val (s.take i)<=val (s.take j):=by
 intro i j h
 induction j with
 | zero=>rw[show i=0 by omega];exact Ya _
 | succ j a =>
  by_cases e:i=j+1
  ·rw[e];exact Ya _
  ·by_cases c:j<s.length
   ·have:=a om
    rw[oR s j c];omega
   ·have:=a om
    have b:s.take (j+1)=s.take j:=by rw[Yo om,Yo om]
    rw[b];exact this
theorem eS(s:Lu)(h:6<=s.length)(d:Km (at_ s 0)=true)(f:at_ s 0≠48):65535<val s:=by
 have n:1<=val (s.take 1):=by
  rw[oR s 0 om];have a:=d;simp only[Km,Y8,dq1,nw]at a
  have c:(48:Ui).toNat=48:=rfl;rw[c]at a
  have:(at_ s 0).toNat≠48:=λe=>f (CS.1 e)
  show 1<=_+((at_ s 0).toNat-48)
  omega
 have step:∀i,i<s.length->10*val (s.take i)<=val (s.take (i+1)):=λi hi=>by rw[oR s i hi];omega
 have g:10*val (s.take 1)<=val (s.take 2):=step 1 om;have j:10*val (s.take 2)<=val (s.take 3):=step 2 om;have k:10*val (s.take 3)<=val (s.take 4):=step 3 om;have l:10*val (s.take 4)<=val (s.take 5):=step 4 om;have m:10*val (s.take 5)<=val (s.take 6):=step 5 om;have b:=YJ s 6 s.length h;rw[Fy]at b;omega
def GM:Lu:=[104,116,116,112]
def Zp:Lu:=[104,116,116,112,115]
def dQ(s:Lu):Nat:=if s=Zp then 443 else 80
def PG(s a:Lu):Nat:=if val s=dQ a then 0 else val s
def AP(Ar s:Lu):Lu:=s.takeWhile λc=>!Ar.contains c
def Xn(Ar s:Lu):Lu:=s.dropWhile λc=>!Ar.contains c
theorem fl(Ar s:Lu):AP Ar s++Xn Ar s=s:=List.takeWhile_append_dropWhile
theorem xK{Ar:Lu}:∀{s:Lu} {i:Nat},Go.Lib.indexAny s Ar=i->AP Ar s=s.take i/\Xn Ar s=s.drop i/\i<s.length
 | [],i,h=>by simp[Go.Lib.indexAny]at h
 | b::l,i,h=>by
  rw[Go.Lib.indexAny]at h;split at h
  ·rename_i f
   have:i=0:=om
   subst this;have d:b∈Ar:=su f
   simp[AP,Xn,d]
  ·rename_i f
   have d:Ar.contains b=false:=su f
   split at h
   ·omega
   ·have n:=Go.Lib.indexAny_ge Ar l
    rename_i g
    have j:Go.Lib.indexAny l Ar≠-1:=λe=>g (beq_iff_eq.2 e)
    obtain⟨k,o⟩:∃k:Nat,Go.Lib.indexAny l Ar=k:=⟨(Go.Lib.indexAny l Ar).toNat,om⟩
    obtain⟨a,m,c⟩:=xK o
    have:i=k+1:=om
    subst this;refine⟨?_,?_,by simp;omega⟩
    ·show(b::l).takeWhile _=_
     rw[nC];simp only[d,gp,if_true,Iw]
     rw[<-a];rfl
    ·show(b::l).dropWhile _=_
     rw[gf];simp only[d,gp,if_true,Ks]
     rw[<-m];rfl
theorem w8{Ar:Lu}:∀{s:Lu},Go.Lib.indexAny s Ar=-1->AP Ar s=s/\Xn Ar s=[]
 | [],_=>⟨O,O⟩
 | b::l,h=>by
  rw[Go.Lib.indexAny]at h;split at h
  ·omega
  ·rename_i f
   have d:Ar.contains b=false:=su f
   split at h
   ·rename_i e
    obtain⟨a,c⟩:=w8 (Ar:=Ar) (beq_iff_eq.1 e);refine⟨?_,?_⟩
    ·show(b::l).takeWhile _=_
     rw[nC];simp only[d,gp,if_true]
     show b::AP Ar l=_
     rw[a]
    ·show(b::l).dropWhile _=_
     rw[gf];simp only[d,gp,if_true]
     exact c
   ·have g:=Go.Lib.indexAny_ge Ar l;omega
theorem Xor{l:Lu}{c:Ui}(h:128<=c.toNat)(f:∀(j:Nat) b,l[j]?=some b->b.toNat<128):Go.Lib.indexByte l c=-1:=by
 have a:=Go.Lib.indexByte_ge l c
 by_cases e:Go.Lib.indexByte l c=-1
 ·exact e
 ·obtain⟨k,d⟩:∃k:Nat,Go.Lib.indexByte l c=k:=⟨(Go.Lib.indexByte l c).toNat,om⟩
  have:=(Go.Lib.indexByte_some d).1
  have:=f _ _ this
  omega
theorem Eb{l:Lu}{c:Ui}:(0<=Go.Lib.indexByte l c)↔l.contains c=true:=by
 have b:=Go.Lib.indexByte_ge l c;constructor
 ·intro h;obtain⟨k,a⟩:∃k:Nat,Go.Lib.indexByte l c=k:=⟨(Go.Lib.indexByte l c).toNat,om⟩
  have:=(Go.Lib.indexByte_some a).1
  rw[pF];exact Y7 this
 ·intro h
  by_cases e:Go.Lib.indexByte l c=-1
  ·have:=Go.Lib.indexByte_none e
   rw[pF]at h;obtain⟨k,a⟩:=EA.1 h;exact Yz a (this k)
  ·omega
theorem D4{s:Lu}(h:i<s.length):s[i]?=some (at_ s i):=by
 rw[Y2 h,at_,Yd,Yf,Y2 h];rfl
def eW(s:Lu):Prop:=∀(j:Nat) b,s[j]?=some b->b.toNat<128
def rv(s cs:Lu)(i:Nat):Int:=if(Go.Utf8.decode ⟨s.toArray⟩ i).1<128 then Go.Lib.indexByte cs (UInt8.ofNat (Go.Utf8.decode ⟨s.toArray⟩ i).1)else -1
theorem Uk{s cs:Lu}(f:eW cs)(hi:i<s.length)(c:Go.Lib.NoAny s cs i):(0<=rv s cs i->Go.Lib.indexAny s cs=i)/\(rv s cs i<0->Go.Lib.NoAny s cs (i+(Go.Utf8.decode ⟨s.toArray⟩ i).2)/\i+(Go.Utf8.decode ⟨s.toArray⟩ i).2<=s.length/\1<=(Go.Utf8.decode ⟨s.toArray⟩ i).2):=by
 unfold rv;rcases Yt (at_ s (i:Int)).toNat 128 with h|h
 ·rw[wx s i hi h];rw[Y9 h,show UInt8.ofNat (at_ s (i:Int)).toNat=at_ s (i:Int)by simp,Eb];refine⟨λe=>Go.Lib.indexAny_hit c (D4 hi) e,λe=>⟨c.succ (D4 hi) ?_,om,om⟩⟩;cases d:cs.contains (at_ s (i:Int))with
  | false=>rfl
  | true=>have:=Eb.2 d;omega
 ·obtain⟨r,t,l,m,n⟩:=Xnw s i hi h;rw[Y3 om];refine⟨λe=>by omega,λ_=>⟨λj b p d=>?_,m,l⟩⟩;rcases Yt j i with a|a
  ·exact c j b a d
  ·have o:=n j a p;have g:j<s.length:=(Y1.1 d).1;rw[D4 g]at d;cases d
   cases e:cs.contains (at_ s (j:Int))with
   | false=>rfl
   | true =>
    rw[pF]at e;obtain⟨k,q⟩:=EA.1 e
    have:=f k _ q
    omega
def HJ(s:Lu):Option Lu:=if s.all fC then D7 s else none
def AU:List UInt8->List (List UInt8)
 | []=>[[]]
 | c::r=>if c=47 then[]::AU r else match AU r with
  | []=>[[c]]
  | h::t=>(c::h)::t
theorem LW(s:Lu):AU s≠[]:=by
 cases s with
 | nil=>simp[AU]
 | cons c r =>
  simp only[AU]
  split
  ·simp
  ·split<;>simp
theorem xu:∀(s:Lu),(∀x∈s,x≠47)->AU s=[s]
 | [],_=>rfl
 | c::r,h=>by
  rw[AU,Y3 (h c sz),xu r (λx hx=>h x (by simp[hx]))]
theorem Oz:∀(a b:Lu),(∀x∈a,x≠47)->AU (a++47::b)=a::AU b
 | [],b,_=>by show AU (47::b)=_;rw[AU,Y9 O]
 | c::r,b,h=>by
  show AU (c::(r++47::b))=_
  rw[AU,Y3 (h c sz),Oz r b (λx hx=>h x (by simp[hx]))]
theorem Xwv{s:Lu}(h:s[i]?=some 47)(c:∀k,k<i->s[k]?≠some 47):AU s=s.take i::AU (s.drop (i+1)):=by
 have hi:i<s.length:=(Y1.1 h).1;have e:s=s.take i++47::s.drop (i+1):=by
  conv=>lhs;rw[<-Fw i s]
  rw[Ym hi,(Y1.1 h).2]
 conv=>lhs;rw[e]
 refine Oz _ _ λx hx d=>?_
 obtain⟨k,a⟩:=EA.1 hx;rw[PO]at a;split at a
 ·rename_i b
  exact c k b (by rw[a,d])
 ·cases a
theorem LZ:∀(n:Nat) (s:Lu),s.length<=n->Go.Lib.splitK [47] 0 (Go.Lib.count s [47]) s=AU s:=by
 intro n
 induction n with
 | zero =>
  intro s h
  have:s=[]:=Yi om
  subst this;rfl
 | succ n g =>
  intro s h;have f:=Go.Lib.indexByte_ge s 47
  by_cases e:Go.Lib.indexByte s 47=-1
  ·have hi:Go.Lib.index s [47]=-1:=by rw[Go.Lib.index_one];exact e
   rw[Go.Lib.count_miss hi];refine(xu s λx hx b=>?_).symm;obtain⟨k,a⟩:=EA.1 hx;exact Go.Lib.indexByte_none e k (by rw[a,b])
  ·obtain⟨i,a⟩:∃k:Nat,Go.Lib.indexByte s 47=k:=⟨(Go.Lib.indexByte s 47).toNat,om⟩
   have hi:Go.Lib.index s [47]=i:=by rw[Go.Lib.index_one];exact a
   obtain⟨c,d⟩:=Go.Lib.indexByte_some a;rw[Go.Lib.count_hit sz hi,Ku 1,Go.Lib.splitK,hi,Y3 sz,Xwv c d];show s.take ((i:Int).toNat+0)::Go.Lib.splitK [47] 0 (Go.Lib.count (s.drop (i+1)) [47]) (s.drop ((i:Int).toNat+1))=_
   rw[Yd,ER,g (s.drop (i+1)) (by rw[Y6];omega)]
theorem eG:∀(n:Nat) (s:Lu),s.length<=n->(AU s).length=Go.Lib.count s [47]+1:=by
 intro n
 induction n with
 | zero =>
  intro s h
  have:s=[]:=Yi om
  subst this;rfl
 | succ n g =>
  intro s h;have f:=Go.Lib.indexByte_ge s 47
  by_cases e:Go.Lib.indexByte s 47=-1
  ·have hi:Go.Lib.index s [47]=-1:=by rw[Go.Lib.index_one];exact e
   rw[Go.Lib.count_miss hi,xu s λx hx b=>?_]
   ·rfl
   ·obtain⟨k,a⟩:=EA.1 hx;exact Go.Lib.indexByte_none e k (by rw[a,b])
  ·obtain⟨i,a⟩:∃k:Nat,Go.Lib.indexByte s 47=k:=⟨(Go.Lib.indexByte s 47).toNat,om⟩
   have hi:Go.Lib.index s [47]=i:=by rw[Go.Lib.index_one];exact a
   obtain⟨c,d⟩:=Go.Lib.indexByte_some a;rw[Go.Lib.count_hit sz hi,Xwv c d,Y5,g (s.drop (i+1)) (by rw[Y6];omega)];show _=1+Go.Lib.count (s.drop (i+1)) [47]+1
   omega
def BQ(k:List Lu)(x:Lu):List Lu:=if x=[46]then k else if x=[46,46]then k.dropLast else k++[x]
def Kc(k:List Lu):Lu:=(k.map (47::·)).flatten
def Sg(x:Lu):Bool:=x==[46]||x==[46,46]
def Hi:List UInt8->List UInt8
 | []=>[]
 | c::r=>if c=47 then Kc ((AU r).foldl BQ [])++(if Sg ((AU r).getLastD [])||((AU r).foldl BQ []).length==0 then[47]else[])else c::r
theorem UQ(p:Lu):(Hi p==[])=(p==[]):=by
 cases p with
 | nil=>rfl
 | cons c r =>
  rw[show((c::r:Lu)==[])=false from O];rw[Hi];split
  ·cases d:(AU r).foldl BQ []with
   | nil=>simp[Kc]
   | cons a b=>simp[Kc]
  ·rfl
theorem Xtu(k:List Lu)(x:Lu):Kc (k++[x])=Kc k++47::x:=by simp[Kc]
def CT(k:List Lu):Nat:=(k.map (λx=>x.length+1)).sum
theorem vx(k:List Lu):(Kc k).length=CT k:=by
 induction k with
 | nil=>rfl
 | cons a b c =>
  rw[CT,Yu,aX,Kc,Yu,Fx,Y0,Y5];show _+(Kc b).length=_
  rw[c];rfl
theorem oZ:∀(s:Lu),CT (AU s)=s.length+1
 | []=>rfl
 | c::r=>by
  have a:=oZ r;simp only[AU]
  split
  ·simp only[CT,Yu,aX]at a ⊢
   simp only[Yh,Y5]
   omega
  ·split
   ·rename_i h;exact Yz h (LW r)
   ·rename_i h
    rw[h]at a;simp only[CT,Yu,aX,Y5]at a ⊢
    omega
theorem iP(k:List Lu):k.length<=CT k:=by
 induction k with
 | nil=>exact Ya _
 | cons a b c =>
  simp only[CT,Yu,aX,Y5]at c ⊢
  omega
theorem tx(a b:List Lu):CT (a++b)=CT a+CT b:=by simp[CT]
theorem YB(k:List Lu)(x:Lu):CT (BQ k x)<=CT k+(x.length+1):=by
 unfold BQ;split
 ·omega
 ·split
  ·rcases List.eq_nil_or_concat k with e|⟨a,b,e⟩
   ·subst e;simp[CT]
   ·subst e;rw[List.concat_eq_append,List.dropLast_concat,tx];omega
  ·rw[tx];simp[CT]
theorem xy(l:List Lu):∀k,CT (l.foldl BQ k)<=CT k+CT l:=by
 induction l with
 | nil=>intro k;simp[CT]
 | cons a b c =>
  intro k;have d:=c (BQ k a);have e:=YB k a;rw[Kt]
  have:CT (a::b)=a.length+1+CT b:=by simp[CT]
  omega
def iO(s:Lu):Option (Lu×Lu) :=
 if low (s.take 7)=[104,116,116,112,58,47,47]then some (GM,s.drop 7)
 else if low (s.take 8)=[104,116,116,112,115,58,47,47]then some (Zp,s.drop 8)else none
structure U where
 ZE:Lu
 host:Lu
 port:Nat
 path:Lu
 query:Lu
 ask:Bool
def U0:U:=⟨[],[],0,[],[],false⟩
abbrev uc(u:U):List Go.Value:=[S u.ZE,S u.host,Ab (u.port:Nat),S u.path,S u.query,.bool u.ask]
def Kk(c a:List UInt8)(b:Nat)(r:List UInt8):U×Nat :=
 match HJ (AP [63] r)with
 | none=>(U0,15)
 | some p=>match HJ ((Xn [63] r).drop 1)with
  | none=>(U0,15)
  | some q=>(⟨c,a,b,if p=[]then[47]else Hi p,q,!(Xn [63] r).isEmpty⟩,0)
def TP(r:Lu):Lu:=low (AP [47,63,35,58] r)
def iQ(b a:Lu)(r:Lu):U×Nat :=
 if r.take 1=[58]then
  if Gf (AP [47,63,35] (r.drop 1))then Kk b a (PG (AP [47,63,35] (r.drop 1)) b) (Xn [47,63,35] (r.drop 1))else(U0,14)
 else Kk b a 0 r
def pU(s:List UInt8):U×Nat :=
 if 2000<s.length then(U0,2)else match iO s with
 | none=>(U0,12)
 | some (a,r)=>if fA (TP r)then iQ a (TP r) (Xn [47,63,35,58] r)else(U0,13)
def iW(u:U):Lu:=u.ZE++[58,47,47]++u.host++(if u.port=0 then[]else 58::Go.Lib.decDigits u.port)
def GZ(u:U):Lu:=iW u++u.path++(if u.ask then 63::u.query else[])
def nU(s:Lu):Lu×Nat:=if(pU s).2=0 then(GZ (pU s).1,0)else([],(pU s).2)
theorem xS{c:Ui}(h:lo c=58\/lo c=47):c=lo c:=by
 have:=Xc (p:=λc=>!(lo c==58||lo c==47)||c==lo c) dk c
 simp only[EC,PR,EB,beq_eq_false_iff_ne,beq_iff_eq]at this
 rcases this with a|a
 ·rcases h with h|h
  ·exact Yz h a.1
  ·exact Yz h a.2
 ·exact a
theorem VQ(s:Lu)(k:Nat):low (s.drop k)=(low s).drop k:=by simp[low]
theorem VT(s:Lu)(k:Nat):low (s.take k)=(low s).take k:=by simp[low]
theorem VS:∀(s:Lu),low s=[58,47,47]->s=[58,47,47]
 | [],h=>by simp[low]at h
 | [_],h=>by simp[low]at h
 | [_,_],h=>by simp[low]at h
 | [a,b,c],h=>by
  simp only[low,Yu,ED,List.cons.injEq,and_true]at h
  obtain⟨d,e,f⟩:=h;rw[xS (.inl d),d,xS (.inr e),e,xS (.inr f),f]
 | _::_::_::_::_,h=>by simp[low]at h
abbrev BU:Lu:=[58,47,47]
theorem kX{s:Lu}(h:(s.drop i).take 3=BU):Go.Lib.occAt s BU i=true:=by
 unfold Go.Lib.occAt;rw[Y5x];rw[<-h];exact List.take_prefix _ _
theorem Wi{s:Lu}(h:Go.Lib.occAt s BU i=true):(s.drop i).take 3=BU:=by
 unfold Go.Lib.occAt at h;rw[Y5x]at h;obtain⟨t,e⟩:=h;rw[<-e];rfl
theorem Ox{s:Lu}{h:Lu}(n:h.length=k)(c:low (s.take (k+3))=h++BU)(i:h.all (· !=58)=true):Go.Lib.index s BU=k/\low (s.take k)=h:=by
 have b:low (s.take k)=h:=by
  have:=Yc (List.take k) c
  rw[<-VT,yz,M8 om,nt om,Yo (l:=h) om]at this;exact this
 have d:(s.drop k).take 3=BU:=by
  apply VS
  have:=Yc (List.drop k) c
  rw[<-VQ,List.drop_take,show k+3-k=3 by omega,pt om,Yb (l:=h) om]at this;exact this
 have a:k<=s.length:=by
  have:=Yc List.length b
  rw[fu,Yl,n]at this;omega
 refine⟨Go.Lib.index_first a (kX d) (λj m=>?_),b⟩;cases o:Go.Lib.occAt s BU j with
 | false=>rfl
 | true =>
  have f:=Wi o;have e:s[j]?=some 58:=by
   have:=Yc (λl=>l[0]?) f
   simpa[PO,Hk]using this
  have g:h[j]?=some 58:=by
   rw[<-b,low,Yr,PO,Y9 m,e];rfl
  have:=Dj.1 i 58 (Y7 g)
  simp at this
theorem Xzy(s:Lu):iO s=(let c:=Go.Lib.cut s BU;if c.2.2=true/\(low c.1=GM\/low c.1=Zp)then some (low c.1,c.2.1)else none):=by
 have a:∀(h:Lu) (k:Nat),h.length=k->Go.Lib.index s BU=(k:Nat)->low (s.take k)=h->low (s.take (k+3))=h++BU:=by
  intro h k g hi e;have b:Go.Lib.occAt s BU k=true:=by
   rcases Go.Lib.index_spec s BU with⟨l,_⟩|⟨j,l,_,m,_⟩
   ·omega
   ·have:j=k:=om
    subst this;exact m
  have n:=Wi b;rw[List.take_add,low,Yn,n];show low (s.take k)++_=_
  rw[e];rfl
 simp only[iO]
 split
 ·rename_i h
  obtain⟨hi,e⟩:=Ox (k:=4) (h:=GM) O h de;have f:Go.Lib.cut s BU=(s.take 4,s.drop 7,true):=by
   unfold Go.Lib.cut;rw[hi,Y9 de];rfl
  rw[f];simp only
  rw[Y9 ⟨trivial,.inl e⟩,e]
 ·rename_i p
  split
  ·rename_i h
   obtain⟨hi,e⟩:=Ox (k:=5) (h:=Zp) O h de;have f:Go.Lib.cut s BU=(s.take 5,s.drop 8,true):=by
    unfold Go.Lib.cut;rw[hi,Y9 de];rfl
   rw[f];simp only
   rw[Y9 ⟨trivial,.inr e⟩,e]
  ·rename_i i
   refine(Y3 ?_).symm;rintro⟨f,b⟩;unfold Go.Lib.cut at f b;split at f
   ·rename_i hi
    rw[Y9 hi]at b;obtain⟨k,g⟩:∃k:Nat,Go.Lib.index s BU=k:=⟨(Go.Lib.index s BU).toNat,om⟩
    rw[g,Yd]at b;simp only at b
    have o:k<=s.length:=by
     have:=Go.Lib.index_le s BU
     omega
    have d:(low (s.take k)).length=k:=by rw[fu,Yl];omega
    rcases b with b|b
    ·have q:k=4:=by rw[<-d,b];rfl
     subst q;exact p (a GM 4 O g b)
    ·have r:k=5:=by rw[<-d,b];rfl
     subst r;exact i (a Zp 5 O g b)
   ·cases f
theorem Nu(s:Lu)(c:Ui):Go.Lib.cut s [c]=(AP [c] s,(Xn [c] s).drop 1,!(Xn [c] s).isEmpty):=by
 have g:=Go.Lib.indexByte_ge s c;have key:Go.Lib.indexAny s [c]=Go.Lib.indexByte s c:=by
  clear g
  induction s with
  | nil=>rfl
  | cons b l m =>
   rw[Go.Lib.indexAny,Go.Lib.indexByte,m]
   have:([c].contains b)=(b==c):=by rw[um];simp
   rw[this]
 unfold Go.Lib.cut;rw[Go.Lib.index_one]
 by_cases e:Go.Lib.indexByte s c=-1
 ·rw[e,Y3 de];obtain⟨d,f⟩:=w8 (Ar:=[c]) (by rw[key];exact e);rw[d,f];rfl
 ·obtain⟨k,h⟩:∃k:Nat,Go.Lib.indexByte s c=k:=⟨(Go.Lib.indexByte s c).toNat,om⟩
  obtain⟨d,f,n⟩:=xK (Ar:=[c]) (i:=k) (by rw[key];exact h);rw[h,Y9 om,d,f,Yd,Gj]
  have:(s.drop k).isEmpty=false:=by
   cases j:s.drop k with
   | nil =>
    have:=Yc List.length j
    rw[Y6,Yh]at this;omega
   | cons a b=>rfl
  rw[this];rfl
theorem Xuw(p:Lu):(Hi p).length<=p.length+1:=by
 cases p with
 | nil=>simp[Hi]
 | cons c r =>
  rw[Hi];split
  ·have a:=xy (AU r) [];rw[oZ,show CT []=0 from O]at a;rw[Y0,vx,Y5]
   have:(if(Sg ((AU r).getLastD [])||((AU r).foldl BQ []).length==0)=true then[47]else([]:Lu)).length<=1:=by split<;>simp
   omega
  ·simp
theorem Zb(a s:Lu):(AP a s).length<=s.length:=by
 have:=Yc List.length (fl a s)
 rw[Y0]at this;omega
theorem Ih(a s:Lu):(Xn a s).length<=s.length:=by
 have:=Yc List.length (fl a s)
 rw[Y0]at this;omega
theorem tf{s t:Lu}(h:HJ s=some t):t.length<=s.length:=by
 unfold HJ at h;split at h
 ·exact Xw1 s t h
 ·cases h
def Py(u:U):Prop:=u.ZE.length<=1000000/\u.host.length<=1000000/\u.port<=65535/\u.path.length<=10000000/\u.query.length<=10000000
theorem mF:Py U0:=⟨de,de,de,de,de⟩
theorem Xj9(c a:Lu)(b:Nat)(r:Lu)(e:c.length<=1000000)(f:a.length<=1000000)(g:b<=65535)(n:r.length<=100000):Py (Kk c a b r).1:=by
 unfold Kk;split
 ·exact mF
 ·rename_i p h
  split
  ·exact mF
  ·rename_i q i
   have j:=tf h;have d:=tf i;have k:=Zb [63] r;have l:=Ih [63] r;have m:=Xuw p;rw[Y6]at d;refine⟨e,f,g,?_,by show q.length<=_;omega⟩;show(if p=[]then[47]else Hi p).length<=_
   split
   ·simp
   ·omega
theorem dX{s b:Lu}(a:Gf s=true):PG s b<=65535:=by
 unfold PG;split
 ·decide
 ·unfold Gf at a;simp only[Y8,dq1]at a
  exact a.2
theorem oQ(s:Lu):Py (pU s).1:=by
 unfold pU;split
 ·exact mF
 ·split
  ·exact mF
  ·rename_i d r a
   split
   ·have h:r.length<=2000/\d.length<=5:=by
     unfold iO at a;split at a
     ·injection a with a;injection a with b c;subst b;subst c;rw[Y6];exact⟨om,de⟩
     ·split at a
      ·injection a with a;injection a with b c;subst b;subst c;rw[Y6];exact⟨om,de⟩
      ·cases a
    have e:(TP r).length<=1000000:=by unfold TP;rw[fu];have:=Zb [47,63,35,58] r;omega
    have g:=Ih [47,63,35,58] r;unfold iQ;split
    ·split
     ·rename_i f
      refine Xj9 _ _ _ _ om e (dX f) ?_
      have:=Ih [47,63,35] ((Xn [47,63,35,58] r).drop 1)
      rw[Y6]at this;omega
     ·exact mF
    ·exact Xj9 _ _ _ _ om e de om
   ·exact mF
theorem sk(a s:Lu):s.take (AP a s).length=AP a s:=by
 have h:=T8 (l₁:=AP a s) (l₂:=Xn a s);rw[fl]at h;exact h
theorem Xog(a s:Lu):s.drop (AP a s).length=Xn a s:=by
 have h:=pO (l₁:=AP a s) (l₂:=Xn a s);rw[fl]at h;exact h
theorem Xmd(a s:Lu):(AP a s).length+(Xn a s).length=s.length:=by
 have:=Yc List.length (fl a s)
 rw[Y0]at this;omega
def Fix(s:Lu):Prop:=D7 s=some s
theorem Fix.nil:Fix []:=oO
theorem Fix.cons{c:Ui}{b:Lu}(h:c≠37)(k:Fix b):Fix (c::b):=by
 unfold Fix at *;rw[iJ,Y3 h,k];rfl
theorem wT{a b:Lu}(f:∀c∈a,Ar.contains c=false)(h:∀c,b.head?=some c->Ar.contains c=true):AP Ar (a++b)=a/\Xn Ar (a++b)=b:=by
 induction a with
 | nil =>
  cases b with
  | nil=>exact⟨O,O⟩
  | cons c b =>
   have:=h c O
   unfold AP Xn;rw[Db,nC,gf,this];exact⟨O,O⟩
 | cons c a i =>
  have g:=f c sz;obtain⟨d,e⟩:=i (λx hx=>f x (by simp[hx]));simp only[AP,Xn]at d e ⊢
  rw[Em,nC,gf,g];exact⟨Yc (c::·) d,e⟩
theorem Mg:∀(n:Nat),val (Go.Lib.decDigits n)=n/\(Go.Lib.decDigits n).all Km=true/\(0<n->(Go.Lib.decDigits n).head?≠some 48)/\Go.Lib.decDigits n≠[]:=by
 have a:∀d,d<10->(UInt8.ofNat (48+d)).toNat=48+d/\Km (UInt8.ofNat (48+d))=true:=λd c=>by
  have h:=(by decide:∀d:Fin 10,(UInt8.ofNat (48+d.val)).toNat=48+d.val/\Km (UInt8.ofNat (48+d.val))=true) ⟨d,c⟩
  exact h
 intro n
 induction n using Nat.strongRecOn with
 | _ n j =>
  rw[Go.Lib.decDigits]
  by_cases h:n<10
  ·rw[dif_pos h];obtain⟨b,f⟩:=a n h;refine⟨?_,?_,λk=>?_,by simp⟩
   ·simp only[val,Kt,List.foldl_nil,b];omega
   ·rw[DR,f];rfl
   ·simp only[List.head?_cons,Option.some.injEq,ne_eq]
    intro e;rw[e]at b
    have:(48:Ui).toNat=48:=rfl
    omega
  ·rw[dif_neg h];obtain⟨b,f⟩:=a (n%10) om;obtain⟨g,i,i3,i4⟩:=j (n/10) om;refine⟨?_,?_,λ_=>?_,by simp⟩
   ·rw[OJ,g,b];omega
   ·rw[ux,i,DR,f];rfl
   ·rw[List.head?_append];cases c:(Go.Lib.decDigits (n/10)).head? with
    | none=>exact Yz (List.head?_eq_none_iff.1 c) i4
    | some x =>
     have:=i3 om
     rw[c]at this;exact this
theorem QF{s:Lu}{c:Ui}(h:(Xn Ar s).head?=some c):Ar.contains c=true:=by
 unfold Xn at h
 have:=List.head?_dropWhile_not (λc=>!Ar.contains c) s
 rw[h]at this;simpa using this
def BW:List UInt8->List (List UInt8)
 | []=>[[]]
 | c::r=>if c=38 then[]::BW r else match BW r with
  | []=>[[c]]
  | h::t=>(c::h)::t
theorem Ue(s:Lu):BW s≠[]:=by
 cases s with
 | nil=>simp[BW]
 | cons c r =>
  simp only[BW]
  split
  ·simp
  ·split<;>simp
theorem sq:∀(s:Lu),(∀x∈s,x≠38)->BW s=[s]
 | [],_=>rfl
 | c::r,h=>by
  rw[BW,Y3 (h c sz),sq r (λx hx=>h x (by simp[hx]))]
theorem Na:∀(a b:Lu),(∀x∈a,x≠38)->BW (a++38::b)=a::BW b
 | [],b,_=>by show BW (38::b)=_;rw[BW,Y9 O]
 | c::r,b,h=>by
  show BW (c::(r++38::b))=_
  rw[BW,Y3 (h c sz),Na r b (λx hx=>h x (by simp[hx]))]
theorem Lb{s:Lu}(h:s[i]?=some 38)(c:∀k,k<i->s[k]?≠some 38):BW s=s.take i::BW (s.drop (i+1)):=by
 have hi:i<s.length:=(Y1.1 h).1;have e:s=s.take i++38::s.drop (i+1):=by
  conv=>lhs;rw[<-Fw i s]
  rw[Ym hi,(Y1.1 h).2]
 conv=>lhs;rw[e]
 refine Na _ _ λx hx d=>?_
 obtain⟨k,a⟩:=EA.1 hx;rw[PO]at a;split at a
 ·rename_i b
  exact c k b (by rw[a,d])
 ·cases a
theorem LX:∀(n:Nat) (s:Lu),s.length<=n->Go.Lib.splitK [38] 0 (Go.Lib.count s [38]) s=BW s:=by
 intro n
 induction n with
 | zero =>
  intro s h
  have:s=[]:=Yi om
  subst this;rfl
 | succ n g =>
  intro s h;have f:=Go.Lib.indexByte_ge s 38
  by_cases e:Go.Lib.indexByte s 38=-1
  ·have hi:Go.Lib.index s [38]=-1:=by rw[Go.Lib.index_one];exact e
   rw[Go.Lib.count_miss hi];refine(sq s λx hx b=>?_).symm;obtain⟨k,a⟩:=EA.1 hx;exact Go.Lib.indexByte_none e k (by rw[a,b])
  ·obtain⟨i,a⟩:∃k:Nat,Go.Lib.indexByte s 38=k:=⟨(Go.Lib.indexByte s 38).toNat,om⟩
   have hi:Go.Lib.index s [38]=i:=by rw[Go.Lib.index_one];exact a
   obtain⟨c,d⟩:=Go.Lib.indexByte_some a;rw[Go.Lib.count_hit sz hi,Ku 1,Go.Lib.splitK,hi,Y3 sz,Lb c d];show s.take ((i:Int).toNat+0)::Go.Lib.splitK [38] 0 (Go.Lib.count (s.drop (i+1)) [38]) (s.drop ((i:Int).toNat+1))=_
   rw[Yd,ER,g (s.drop (i+1)) (by rw[Y6];omega)]
theorem aZ:∀(n:Nat) (s:Lu),s.length<=n->(BW s).length=Go.Lib.count s [38]+1:=by
 intro n
 induction n with
 | zero =>
  intro s h
  have:s=[]:=Yi om
  subst this;rfl
 | succ n g =>
  intro s h;have f:=Go.Lib.indexByte_ge s 38
  by_cases e:Go.Lib.indexByte s 38=-1
  ·have hi:Go.Lib.index s [38]=-1:=by rw[Go.Lib.index_one];exact e
   rw[Go.Lib.count_miss hi,sq s λx hx b=>?_]
   ·rfl
   ·obtain⟨k,a⟩:=EA.1 hx;exact Go.Lib.indexByte_none e k (by rw[a,b])
  ·obtain⟨i,a⟩:∃k:Nat,Go.Lib.indexByte s 38=k:=⟨(Go.Lib.indexByte s 38).toNat,om⟩
   have hi:Go.Lib.index s [38]=i:=by rw[Go.Lib.index_one];exact a
   obtain⟨c,d⟩:=Go.Lib.indexByte_some a;rw[Go.Lib.count_hit sz hi,Lb c d,Y5,g (s.drop (i+1)) (by rw[Y6];omega)];show _=1+Go.Lib.count (s.drop (i+1)) [38]+1
   omega
theorem mg:∀(s:Lu),CT (BW s)=s.length+1
 | []=>rfl
 | c::r=>by
  have a:=mg r;simp only[BW]
  split
  ·simp only[CT,Yu,aX]at a ⊢
   simp only[Yh,Y5]
   omega
  ·split
   ·rename_i h;exact Yz h (Ue r)
   ·rename_i h
    rw[h]at a;simp only[CT,Yu,aX,Y5]at a ⊢
    omega
abbrev Aq(s:Lu):Lu:=s.flatMap GC
theorem U1(c:Ui)(s:Lu):Aq (c::s)=GC c++Aq s:=rfl
theorem cD(a b:Lu):Aq (a++b)=Aq a++Aq b:=M6 ..
theorem dO(c:Ui):1<=(GC c).length/\(GC c).length<=3:=by unfold GC;split<;>simp[Fc]
theorem YZ:∀(s:Lu),(Aq s).length<=3*s.length
 | []=>Ya _
 | c::s=>by
  have:=YZ s
  have:=(dO c).2
  rw[U1,Y0,Y5];omega
def dB(p:Bool)(c:Ui):Ui:=if(p&&c==43)=true then 32 else c
def Lk(p:Bool):Nat->List UInt8->Option (List UInt8)
 | 0,_=>some []
 | _+1,[]=>some []
 | f+1,c::r=>if c=37 then match told r with
   | none=>none
   | some v=>(Lk p f (r.drop 2)).map (v::·)
  else(Lk p f r).map (dB p c::·)
def dec(p:Bool)(s:Lu):Option Lu:=Lk p (s.length+1) s
theorem wv(p:Bool):∀(f g:Nat) (s:Lu),s.length<f->s.length<g->Lk p f s=Lk p g s
 | 0,_,_,h,_=>by omega
 | _+1,0,_,_,h=>by omega
 | f+1,g+1,[],_,_=>rfl
 | f+1,g+1,c::r,a,b=>by
  simp only[Lk]
  split
  ·cases d:told r with
   | none=>rfl
   | some v =>
    simp only
    have:=Z4 d
    simp only[Y5]at a b
    rw[wv p f g (r.drop 2) (by rw[Y6];omega) (by rw[Y6];omega)]
  ·simp only[Y5]at a b
   rw[wv p f g r om om]
theorem xL(p:Bool):dec p []=some []:=rfl
theorem fp(p:Bool)(c:Ui)(r:Lu):dec p (c::r)=if c=37 then match told r with
   | none=>none
   | some v=>(dec p (r.drop 2)).map (v::·)
  else(dec p r).map (dB p c::·):=by
 unfold dec;simp only[Y5,Lk]
 split
 ·cases a:told r with
  | none=>rfl
  | some v =>
   simp only
   have:=Z4 a
   rw[wv p (r.length+1) ((r.drop 2).length+1) (r.drop 2) (by rw[Y6];omega) om]
 ·rfl
theorem Nw(p:Bool):∀(s t:Lu),dec p s=some t->t.length<=s.length:=by
 intro s
 induction hn:s.length using Nat.strongRecOn generalizing s with
 | _ n d =>
  intro t h;cases s with
  | nil=>rw[xL]at h;injection h with h;subst h;simp
  | cons c r =>
   rw[fp]at h;simp only[Y5]at hn
   split at h
   ·cases b:told r with
    | none=>rw[b]at h;cases h
    | some v =>
     rw[b]at h;simp only at h
     cases a:dec p (r.drop 2)with
     | none=>rw[a]at h;cases h
     | some u =>
      rw[a]at h;simp at h
      subst h
      have:=d (r.drop 2).length (by rw[Y6];omega) (r.drop 2) O u a
      rw[Y6]at this;simp only[Y5]
      omega
   ·cases a:dec p r with
    | none=>rw[a]at h;cases h
    | some u =>
     rw[a]at h;simp at h
     subst h
     have:=d r.length om r O u a
     simp only[Y5]
     omega
abbrev Pq:=Lu×Lu
def KU(x:List UInt8):Option Pq:=match dec true (AP [61] x)with
 | none=>none
 | some n=>match dec true ((Xn [61] x).drop 1)with
  | none=>none
  | some v=>some (n,v)
def Ji:List (List UInt8)->List Pq->List Pq×Nat
 | [],a=>(a,0)
 | x::r,a=>if x=[]then Ji r a else if 32<=a.length then([],5)else match KU x with
  | none=>([],11)
  | some p=>Ji r (a++[p])
def KY(s:Lu):List Pq×Nat:=Ji (BW s) []
def GH(q n v:Lu):Lu:=(if q=[]then[]else q++[38])++(Aq n++61::Aq v)
theorem oF(q n v:Lu):(GH q n v).length<=q.length+2+3*n.length+3*v.length:=by
 have a:=YZ n;have b:=YZ v;unfold GH;split<;>simp only[Y0,Y5,Yh]<;>omega
def MX(u:U)(n v:Lu):U:={ u with query:=GH u.query n v,ask:=true }
end Ul
namespace Rq
open Pc Gk Ul Go
def AK(k:UInt8):List UInt8->List (List UInt8)
 | []=>[[]]
 | c::r=>if c=k then[]::AK k r else match AK k r with
  | []=>[[c]]
  | h::t=>(c::h)::t
theorem tQ(k:Ui)(s:Lu):AK k s≠[]:=by
 cases s with
 | nil=>simp[AK]
 | cons c r =>
  simp only[AK]
  split
  ·simp
  ·split<;>simp
theorem sH(k:Ui):∀(s:Lu),(∀x∈s,x≠k)->AK k s=[s]
 | [],_=>rfl
 | c::r,h=>by
  rw[AK,Y3 (h c sz),sH k r (λx hx=>h x (by simp[hx]))]
theorem Ob(k:Ui):∀(a b:Lu),(∀x∈a,x≠k)->AK k (a++k::b)=a::AK k b
 | [],b,_=>by show AK k (k::b)=_;rw[AK,Y9 O]
 | c::r,b,h=>by
  show AK k (c::(r++k::b))=_
  rw[AK,Y3 (h c sz),Ob k r b (λx hx=>h x (by simp[hx]))]
theorem LO{k:Ui}{s:Lu}(h:s[i]?=some k)(c:∀j,j<i->s[j]?≠some k):AK k s=s.take i::AK k (s.drop (i+1)):=by
 have hi:i<s.length:=(Y1.1 h).1;have e:s=s.take i++k::s.drop (i+1):=by
  conv=>lhs;rw[<-Fw i s]
  rw[Ym hi,(Y1.1 h).2]
 conv=>lhs;rw[e]
 refine Ob k _ _ λx hx d=>?_
 obtain⟨j,a⟩:=EA.1 hx;rw[PO]at a;split at a
 ·rename_i b
  exact c j b (by rw[a,d])
 ·cases a
theorem LY(c:Ui):∀(n:Nat) (s:Lu),s.length<=n->Go.Lib.splitK [c] 0 (Go.Lib.count s [c]) s=AK c s:=by
 intro n
 induction n with
 | zero =>
  intro s h
  have:s=[]:=Yi om
  subst this;rfl
 | succ n j =>
  intro s h;have g:=Go.Lib.indexByte_ge s c
  by_cases e:Go.Lib.indexByte s c=-1
  ·have hi:Go.Lib.index s [c]=-1:=by rw[Go.Lib.index_one];exact e
   rw[Go.Lib.count_miss hi];refine(sH c s λx hx b=>?_).symm;obtain⟨k,a⟩:=EA.1 hx;exact Go.Lib.indexByte_none e k (by rw[a,b])
  ·obtain⟨i,a⟩:∃k:Nat,Go.Lib.indexByte s c=k:=⟨(Go.Lib.indexByte s c).toNat,om⟩
   obtain⟨d,f⟩:=Go.Lib.indexByte_some a;rw[Go.Lib.count_hit sz (by rw[Go.Lib.index_one];exact a),LO d f];show Go.Lib.splitK [c] 0 (1+Go.Lib.count (s.drop (i+1)) [c]) s=_
   rw[Ku 1,Go.Lib.splitK,Go.Lib.index_one,a,Y3 sz];simp only[Yd,ER,Y5,Yh,Yk]
   rw[j _ (by rw[Y6];omega)]
theorem dV(c:Ui):∀(n:Nat) (s:Lu),s.length<=n->(AK c s).length=Go.Lib.count s [c]+1:=by
 intro n
 induction n with
 | zero =>
  intro s h
  have:s=[]:=Yi om
  subst this;rw[Go.Lib.count_miss (by rw[Go.Lib.index_one];rfl)];rfl
 | succ n j =>
  intro s h;have g:=Go.Lib.indexByte_ge s c
  by_cases e:Go.Lib.indexByte s c=-1
  ·have hi:Go.Lib.index s [c]=-1:=by rw[Go.Lib.index_one];exact e
   rw[Go.Lib.count_miss hi,sH c s λx hx b=>?_]
   ·rfl
   ·obtain⟨k,a⟩:=EA.1 hx;exact Go.Lib.indexByte_none e k (by rw[a,b])
  ·obtain⟨i,a⟩:∃k:Nat,Go.Lib.indexByte s c=k:=⟨(Go.Lib.indexByte s c).toNat,om⟩
   obtain⟨d,f⟩:=Go.Lib.indexByte_some a;rw[Go.Lib.count_hit sz (by rw[Go.Lib.index_one];exact a),LO d f];show(AK c (s.drop (i+1))).length+1=(1+Go.Lib.count (s.drop (i+1)) [c])+1
   rw[j _ (by rw[Y6];omega)];omega
theorem mr(k:Ui):∀(s:Lu),∀x∈AK k s,x.length<=s.length
 | [],x,h=>by simp[AK]at h;subst h;simp
 | c::r,x,h=>by
  have a:=mr k r;rw[AK]at h;split at h
  ·rcases Yp.1 h with rfl|h
   ·simp
   ·have:=a x h;simp;omega
  ·cases e:AK k r with
   | nil=>exact Yz e (tQ k r)
   | cons y t =>
    rw[e]at h a;rcases Yp.1 h with rfl|h
    ·have:=a y sz;simp;omega
    ·have:=a x (by simp[h]);simp;omega
theorem oW(k:Ui):∀(s:Lu),(AK k s).length<=s.length+1
 | []=>by simp[AK]
 | c::r=>by
  have a:=oW k r;rw[AK];split
  ·simp;omega
  ·cases e:AK k r with
   | nil=>simp
   | cons y t=>rw[e]at a;simp at a ⊢;omega
def Ef(c:Ui):Bool:=plain c&&c !=46&&c !=95&&c !=126
def H8(s:Lu):Bool:=List.all s Ef&&!s.isEmpty
def B_(a b c:Ui):Bool:=decide (a.toNat<=c.toNat)&&decide (c.toNat<=b.toNat)
def HO(c:Ui):Bool:=decide (33<=c.toNat)&&decide (c.toNat<=126)&&c !=34&&c !=44&&c !=59&&c !=92
def Ek(c:Ui):Ui:=if decide (65<=c.toNat)&&decide (c.toNat<=90)then c+32 else c
def MM(a b:Lu):Bool:=a.length==b.length&&a.map Ek==b.map Ek
def CR:Lu:=[13,10]
def X3(s:Lu):Lu×Nat×Lu:=if(Go.Lib.cut s CR).2.2=true then((Go.Lib.cut s CR).1,0,(Go.Lib.cut s CR).2.1)else([],3,s)
def tu(s:Lu):Bool:=Go.Lib.hasPrefix s [47]&&List.all s (B_ 33 126)
def h_:Lu:=[72,84,84,80,47,49,46,49]
def GET:Lu:=[71,69,84]
def nZ:Lu:=[80,79,83,84]
def fz(p:List Lu):Bool:=(((((p.length:Nat):Int)!=3||p.getD 0 []==[])||!List.all (p.getD 0 []) (B_ 65 90))||!tu (p.getD 1 []))||p.getD 2 []!=h_
def o6(p:List Lu):Bool:=p.getD 0 []!=GET&&p.getD 0 []!=nZ
def Et(l:Lu):Lu×Lu×Nat :=
 if fz (AK 32 l)=true then([],[],17)else if o6 (AK 32 l)=true then([],[],16)else((AK 32 l).getD 0 [],(AK 32 l).getD 1 [],0)
theorem mC(l:Lu)(k:Nat):((AK 32 l).getD k []).length<=l.length:=by
 rw[Yf];cases h:(AK 32 l)[k]? with
 | none=>simp
 | some x=>exact mr 32 l x (Y7 h)
theorem G8{p:List Lu}(h:k<p.length):(p.map S)[k]?=some (S (p.getD k [])):=by
 rw[Yr,Yf,Y2 h];rfl
def C_(c:Ui)(s:Lu):Lu×Lu×Bool:=(AP [c] s,(Xn [c] s).drop 1,!(Xn [c] s).isEmpty)
def ni(l:Lu):Lu:=Go.Lib.trimS (C_ 58 l).2.1 [32,9]
def nh(l:Lu):Bool:=(!(C_ 58 l).2.2||!H8 (C_ 58 l).1)||!List.all (ni l) (B_ 32 126)
def Io(l:Lu):Pq×Nat:=if nh l=true then(([],[]),18)else(((C_ 58 l).1,ni l),0)
def GK(s:Lu):Int:=s.foldl (λn c=>IntKind.i64.wrap (IntKind.i64.wrap (10*n)+IntKind.u8.wrap ((c.toNat:Int)-48))) 0
def TW(s:Lu):Bool:=(s !=[]&&decide ((s.length:Int)<=4))&&List.all s (B_ 48 57)
def Xe(name:Lu)(b:List Pq):Lu×Nat:=b.foldl (λa h=>if MM h.1 name=true then(if a.2=0 then h.2 else a.1,a.2+1)else a) ([],0)
def TE:Lu:=[116,114,97,110,115,102,101,114,45,101,110,99,111,100,105,110,103]
def CL:Lu:=[99,111,110,116,101,110,116,45,108,101,110,103,116,104]
def Xy(a:List Pq):Int×Nat :=
 if 0<(Xe TE a).2 then(0,18)else if(Xe CL a).2=0 then(0,0)
 else if(decide (1<((Xe CL a).2:Int))||!TW (Xe CL a).1)=true then(0,18)else(GK (Xe CL a).1,0)
def HH(s:Lu):Bool:=(((X3 s).2.1:Nat):Int)==0&&(X3 s).1==[]
def CW:Nat->List UInt8->List Pq->List Pq×Nat×List UInt8
 | 0,s,a=>(a,3,s)
 | k+1,s,a =>
  if HH s=true then(a,0,(X3 s).2.2)
  else if(X3 s).2.1≠0 then(a,(X3 s).2.1,(X3 s).2.2)
  else if 32<=a.length then(a,5,(X3 s).2.2)
  else if(Io (X3 s).1).2≠0 then(a,(Io (X3 s).1).2,(X3 s).2.2)
  else CW k (X3 s).2.2 (a++[(Io (X3 s).1).1])
theorem xz(s:Lu)(c:Ui):(Go.Lib.trimB s c).length<=s.length:=by
 have h:∀(p:Ui->Bool) (l:Lu),(l.dropWhile p).length<=l.length:=λp l=>(Y6h p).length_le
 unfold Go.Lib.trimB Go.Lib.trimLeftB Go.Lib.trimRightB;refine Yq (h _ _) ?_;rw[ui];refine Yq (h _ _) ?_;rw[ui];exact Ya _
theorem sO(s p:Lu):(Go.Lib.trimS s p).length<=s.length:=by
 have h:∀(p:Ui->Bool) (l:Lu),(l.dropWhile p).length<=l.length:=λp l=>(Y6h p).length_le
 unfold Go.Lib.trimS Go.Lib.trimLeftS Go.Lib.trimRightS;refine Yq (h _ _) ?_;rw[ui];refine Yq (h _ _) ?_;rw[ui];exact Ya _
theorem ke(s p:Lu):(Go.Lib.cut s p).1.length<=s.length/\(Go.Lib.cut s p).2.1.length<=s.length:=by
 unfold Go.Lib.cut;split<;>simp<;>omega
theorem TI(c:Ui)(s:Lu):(C_ c s).1.length<=s.length/\(C_ c s).2.1.length<=s.length:=⟨Zb [c] s,by
 show((Xn [c] s).drop 1).length<=_
 have:=Ih [c] s
 rw[Y6];omega⟩
theorem Y_(s:Lu):(X3 s).1.length<=s.length/\(X3 s).2.2.length<=s.length:=by
 have h:=ke s CR;unfold X3;split
 ·exact h
 ·exact⟨Y4 _,Ya _⟩
theorem mj(s:Lu)(h:(X3 s).2.1=0):(X3 s).2.2.length<s.length:=by
 unfold X3 Go.Lib.cut at h ⊢
 by_cases hi:0<=Go.Lib.index s CR
 ·rw[Y9 hi]at h ⊢;have b:=Go.Lib.index_room s CR hi;have a:CR.length=2:=rfl;simp only[Y9,Y6]
  omega
 ·rw[Y3 hi]at h;simp at h
theorem Vq(l:Lu):(Io l).1.1.length<=l.length/\(Io l).1.2.length<=l.length:=by
 have h:=TI 58 l;unfold Io;split
 ·exact⟨Y4 _,Y4 _⟩
 ·exact⟨h.1,Yq (sO _ _) h.2⟩
theorem xf{n:Nat}:∀(k:Nat) (s:Lu) (a:List Pq),s.length<=n->a.length<=32->(∀h∈a,h.1.length<=n/\h.2.length<=n)->
  (CW k s a).1.length<=32/\(∀h∈(CW k s a).1,h.1.length<=n/\h.2.length<=n)/\(CW k s a).2.2.length<=n
 | 0,s,a,e,d,b=>⟨d,b,e⟩
 | k+1,s,a,e,d,b=>by
  have f:=Y_ s;have g:=Vq (X3 s).1;rw[CW];split
  ·exact⟨d,b,by dsimp only;omega⟩
  ·split
   ·exact⟨d,b,by dsimp only;omega⟩
   ·split
    ·exact⟨d,b,by dsimp only;omega⟩
    ·split
     ·exact⟨d,b,by dsimp only;omega⟩
     ·refine xf k _ _ om (by simp;omega) λh c=>?_
      rcases Ys.1 c with c|c
      ·exact b h c
      ·simp at c;subst c;omega
theorem vT:∀(k j:Nat) (s:Lu) (a:List Pq),s.length<k->s.length<j->CW k s a=CW j s a
 | 0,j,s,a,h,_=>Yz h om
 | k+1,0,s,a,_,h=>Yz h om
 | k+1,j+1,s,a,c,d=>by
  rw[CW,CW];split
  ·rfl
  ·split
   ·rfl
   ·rename_i b
    split
    ·rfl
    ·split
     ·rfl
     ·have:=mj s (su b)
      exact vT k j _ _ om om
def HM(nm:Lu)(a:Lu×Nat)(h:Pq):Lu×Nat:=if MM h.1 nm=true then(if a.2=0 then h.2 else a.1,a.2+1)else a
theorem NK(nm:Lu){n:Nat}:∀(b:List Pq) (a:Lu×Nat),(∀h∈b,h.2.length<=n)->a.1.length<=n->(b.foldl (HM nm) a).1.length<=n/\(b.foldl (HM nm) a).2<=a.2+b.length
 | [],a,_,c=>⟨c,Ya _⟩
 | h::b,a,d,c=>by
  rw[Kt,Y5];have e:(HM nm a h).1.length<=n/\(HM nm a h).2<=a.2+1:=by
   unfold HM;split
   ·split
    ·exact⟨d h sz,Ya _⟩
    ·exact⟨c,Ya _⟩
   ·exact⟨c,uE _⟩
  have f:=NK nm b (HM nm a h) (λx hx=>d x (by simp[hx])) e.1;exact⟨f.1,om⟩
theorem NJ(nm:Lu):∀(b:List Pq) (a:Lu×Nat),(b.foldl (HM nm) a).2<=a.2+b.length
 | [],a=>Ya _
 | h::b,a=>by
  rw[Kt,Y5];have d:=NJ nm b (HM nm a h);have c:(HM nm a h).2<=a.2+1:=by unfold HM;split<;>simp
  omega
theorem gz(nm:Lu)(a:List Pq):(Xe nm a).2<=a.length:=Yq (NJ nm a ([],0)) sz
theorem tH(nm:Lu)(a:List Pq)(h:∀h∈a,h.2.length<=n):(Xe nm a).1.length<=n/\(Xe nm a).2<=a.length:=by
 have:=NK nm a ([],0) h (Y4 _)
 exact⟨this.1,Yq this.2 sz⟩
structure I_ where
 Ax:Lu
 target:Lu
 Af:List Pq
 body:Lu
def I_.none:I_:=⟨[],[],[],[]⟩
def Se(n:Nat)(want:Int):Nat:=if(n:Int)<want then 3 else if want<(n:Int)then 9 else 0
def X0(s:Lu):I_×Nat :=
 if 4096<s.length then(.none,2)else if(X3 s).2.1≠0 then(.none,(X3 s).2.1)
 else if(Et (X3 s).1).2.2≠0 then(.none,(Et (X3 s).1).2.2)
 else if(CW ((X3 s).2.2.length+1) (X3 s).2.2 []).2.1≠0 then(.none,(CW ((X3 s).2.2.length+1) (X3 s).2.2 []).2.1)
 else if(Xy (CW ((X3 s).2.2.length+1) (X3 s).2.2 []).1).2≠0 then(.none,(Xy (CW ((X3 s).2.2.length+1) (X3 s).2.2 []).1).2)
 else if Se (CW ((X3 s).2.2.length+1) (X3 s).2.2 []).2.2.length (Xy (CW ((X3 s).2.2.length+1) (X3 s).2.2 []).1).1≠0 then(.none,Se (CW ((X3 s).2.2.length+1) (X3 s).2.2 []).2.2.length (Xy (CW ((X3 s).2.2.length+1) (X3 s).2.2 []).1).1)
 else(⟨(Et (X3 s).1).1,(Et (X3 s).1).2.1,(CW ((X3 s).2.2.length+1) (X3 s).2.2 []).1,(CW ((X3 s).2.2.length+1) (X3 s).2.2 []).2.2⟩,0)
def DD(name:Lu)(l:List Pq):Lu×Nat:=l.foldl (λa h=>if h.1=name then(if a.2=0 then h.2 else a.1,a.2+1)else a) ([],0)
def Jm(name:Lu)(a:Lu×Nat)(h:Pq):Lu×Nat:=if h.1=name then(if a.2=0 then h.2 else a.1,a.2+1)else a
theorem NH(nm:Lu):∀(b:List Pq) (a:Lu×Nat),(b.foldl (Jm nm) a).2<=a.2+b.length
 | [],a=>Ya _
 | h::b,a=>by
  rw[Kt,Y5];have d:=NH nm b (Jm nm a h);have c:(Jm nm a h).2<=a.2+1:=by unfold Jm;split<;>simp
  omega
theorem gy(nm:Lu)(a:List Pq):(DD nm a).2<=a.length:=Yq (NH nm a ([],0)) sz
theorem NI(nm:Lu){n:Nat}:∀(c:List Pq) (a:Lu×Nat),(∀h∈c,h.2.length<=n)->a.1.length<=n->(c.foldl (Jm nm) a).1.length<=n
 | [],a,_,b=>b
 | h::c,a,d,b=>by
  rw[Kt];have e:(Jm nm a h).1.length<=n:=by
   unfold Jm;split
   ·split
    ·exact d h sz
    ·exact b
   ·exact b
  exact NI nm c (Jm nm a h) (λx hx=>d x (by simp[hx])) e
theorem ku(nm:Lu)(a:List Pq)(h:∀h∈a,h.2.length<=n):(DD nm a).1.length<=n:=NI nm a ([],0) h (Y4 _)
def aG(m t:Lu):Bool:=(((KY (C_ 63 t).2.1).2:Nat):Int)!=0||m !=nZ
def BH(m t a:Lu):List Pq×Nat :=
 if aG m t=true then KY (C_ 63 t).2.1 else
 if(KY a).2≠0 then([],(KY a).2)else
 if 32<(KY (C_ 63 t).2.1).1.length+(KY a).1.length then([],5)else((KY (C_ 63 t).2.1).1++(KY a).1,0)
def aP(t:Lu):Bool:=(!(C_ 61 t).2.2||!H8 (C_ 61 t).1)||!List.all (C_ 61 t).2.1 HO
def EN:List (List UInt8)->List Pq->List Pq×Nat
 | [],a=>(a,0)
 | p::r,a =>
  if Go.Lib.trimB p 32=[]then EN r a else if 20<=a.length then([],5)
  else if aP (Go.Lib.trimB p 32)=true then([],10)else EN r (a++[((C_ 61 (Go.Lib.trimB p 32)).1,(C_ 61 (Go.Lib.trimB p 32)).2.1)])
theorem r_:∀(l:List Lu) (a:List Pq),a.length<=20->(EN l a).1.length<=20
 | [],a,h=>h
 | p::r,a,h=>by
  rw[EN];split
  ·exact r_ r a h
  ·split
   ·exact Y4 _
   ·split
    ·exact Y4 _
    ·exact r_ r _ (by simp;omega)
def mx:Lu:=[99,111,111,107,105,101]
def G0:Lu:=[67,65,83,84,71,67]
def Dh(a:List Pq):Lu×Nat:=((DD G0 (EN (AK 59 (Xe mx a).1) []).1).1,(EN (AK 59 (Xe mx a).1) []).2)
theorem vR:∀(l:List Lu) (a:List Pq),a.length<=32->(Ji l a).1.length<=32
 | [],a,h=>h
 | x::r,a,h=>by
  rw[Ji];split
  ·exact vR r a h
  ·split
   ·exact Y4 _
   ·split
    ·exact Y4 _
    ·exact vR r _ (by simp;omega)
theorem oL(s:Lu):(KY s).1.length<=32:=vR _ _ de
theorem Uo(m t a:Lu):(BH m t a).1.length<=32:=by
 unfold BH;split
 ·exact oL _
 ·split
  ·exact Y4 _
  ·split
   ·exact Y4 _
   ·simp;omega
theorem We(s:Lu)(i:Nat)(h:i+1<s.length):Go.Lib.occAt s CR i=((((at_ s (i:Int)).toNat:Int)==13)&&(((at_ s ((i:Int)+1)).toNat:Int)==10)):=by
 have c:∀a:Ui,(13==a)=(((a.toNat:Nat):Int)==13):=λa=>eq_of_beq (Xc (p:=λa=>(13==a)==(((a.toNat:Nat):Int)==13)) dk a)
 have b:∀a:Ui,(10==a)=(((a.toNat:Nat):Int)==10):=λa=>eq_of_beq (Xc (p:=λa=>(10==a)==(((a.toNat:Nat):Int)==10)) dk a)
 unfold Go.Lib.occAt CR;rw[X7 s om,X7 s h];simp only[List.isPrefixOf,pP,c,b]
 rfl
theorem Wg(s:Lu)(i:Nat)(h:s.length<=i+1):Go.Lib.occAt s CR i=false:=by
 unfold Go.Lib.occAt CR;rcases Yt i s.length with a|a
 ·rw[X7 s a,Yb om];simp[List.isPrefixOf]
 ·rw[Yb om];rfl
theorem xk(s:Lu)(a j:Nat):Go.Lib.occAt (s.drop a) CR j=Go.Lib.occAt s CR (a+j):=by
 unfold Go.Lib.occAt;rw[Gj]
theorem VN{s:Lu}{a:Nat}(d:a<=i)(e:i+1<s.length)(c:Go.Lib.occAt s CR i=true)(b:∀j,a<=j->j<i->Go.Lib.occAt s CR j=false):X3 (s.drop a)=((s.drop a).take (i-a),0,s.drop (i+2)):=by
 have hi:Go.Lib.index (s.drop a) CR=((i-a:Nat):Int):=Go.Lib.index_hit (λj f=>by rw[xk];exact b _ om om) (by rw[Y6];omega) (by rw[xk,show a+(i-a)=i by omega];exact c);unfold X3 Go.Lib.cut;rw[hi,Y9 (uk _)];simp only[Y9,Yd,Gj]
 rw[show a+(i-a+CR.length)=i+2 by show a+(i-a+2)=i+2;omega]
theorem QW{s:Lu}{a:Nat}(c:a<=s.length)(b:∀j,a<=j->j+1<s.length->Go.Lib.occAt s CR j=false):X3 (s.drop a)=([],3,s.drop a):=by
 have hi:Go.Lib.index (s.drop a) CR=-1:=Go.Lib.index_none λj d=>by
  rw[xk];rcases Yt (a+j+1) s.length with h|h
  ·exact b _ om h
  ·exact Wg _ _ h
 unfold X3 Go.Lib.cut;rw[hi,Y3 (show ¬ (0:Int)<=-1 by decide)];rfl
def GR(s:Lu)(a:Nat):Int:=if(X3 (s.drop a)).2.1=0 then((s.length-(X3 (s.drop a)).2.2.length:Nat):Int)else -1
theorem Nz{p:Ui->Bool}{s:Lu}(h:0<s.length)(a:p (at_ s 0)=true):s.dropWhile p=(s.drop 1).dropWhile p:=by
 have e:=X7 s (k:=0) h;rw[FY]at e
 conv=>lhs;rw[e]
 exact yd a
theorem NA{p:Ui->Bool}{s:Lu}(h:0<s.length->p (at_ s 0)=false):s.dropWhile p=s:=by
 cases s with
 | nil=>rfl
 | cons c r=>rw[gf,Y3];simpa[at_]using h sz
def H0(p:Ui->Bool)(s:Lu):Lu:=(s.reverse.dropWhile p).reverse
theorem Oj{p:Ui->Bool}{s:Lu}{k:Int}(h:0<s.length)(b:k=(s.length:Int)-1)(a:p (at_ s k)=true):H0 p s=H0 p (s.take k.toNat):=by
 subst b;have e:s=s.take (s.length-1)++[at_ s ((s.length-1:Nat):Int)]:=by
  conv=>lhs;rw[<-Fw (s.length-1) s]
  rw[X7 s om,Yb om]
 rw[show((s.length:Int)-1)=((s.length-1:Nat):Int)by omega]at a ⊢;rw[Yd];unfold H0
 conv=>lhs;rw[e,List.reverse_append]
 rw[Y6k,List.singleton_append,gf,Y9 a]
theorem Xwl{p:Ui->Bool}{s:Lu}(h:0<s.length->p (at_ s ((s.length:Int)-1))=false):H0 p s=s:=by
 unfold H0;rcases Ix s.length with a|a
 ·rw[Yi a];rfl
 ·have e:s=s.take (s.length-1)++[at_ s ((s.length-1:Nat):Int)]:=by
   conv=>lhs;rw[<-Fw (s.length-1) s]
   rw[X7 s om,Yb om]
  have b:=h a;rw[show((s.length:Int)-1)=((s.length-1:Nat):Int)by omega]at b;have c:s.reverse.dropWhile p=s.reverse:=by
   rw[e,List.reverse_append,Y6k,List.singleton_append,gf,Y3 (nB b)]
  rw[c,List.reverse_reverse]
theorem Xwk(p:Ui->Bool)(c:Ui)(r:Lu):H0 p (c::r)=if(H0 p r).isEmpty then(if p c=true then[]else[c])else c::H0 p r:=by
 unfold H0;rw[List.reverse_cons,List.dropWhile_append];cases h:List.dropWhile p r.reverse with
 | nil =>
  simp only[List.isEmpty_nil,Y9,List.reverse_nil,gf,List.dropWhile_nil]
  split<;>rfl
 | cons x l=>simp
theorem xo(p:Ui->Bool):∀s:Lu,H0 p (s.dropWhile p)=(H0 p s).dropWhile p
 | []=>rfl
 | c::r=>by
  have b:=xo p r
  by_cases a:p c=true
  ·rw[yd a,b,Xwk];cases h:H0 p r with
   | nil=>simp[a]
   | cons x l=>simp only[List.isEmpty_cons];exact(yd a).symm
  ·rw[Y5w a,Xwk];cases h:H0 p r with
   | nil=>simp[a]
   | cons x l=>simp only[List.isEmpty_cons];exact(Y5w a).symm
theorem RP(s p:Lu):Go.Lib.trimS s p=H0 (λc=>p.contains c) (s.dropWhile λc=>p.contains c):=(xo _ s).symm
theorem RO(s:Lu)(k:Ui):Go.Lib.trimB s k=H0 (λc=>c==k) (s.dropWhile λc=>c==k):=(xo _ s).symm
theorem s0(nm:Lu):∀(l:List Pq) (v:Lu) (n:Nat),0<n->l.foldl (HM nm) (v,n)=(v,n+(Xe nm l).2)
 | [],v,n,h=>rfl
 | x::l,v,n,h=>by
  rw[Kt];have e:Xe nm (x::l)=l.foldl (HM nm) (HM nm ([],0) x):=rfl;rw[e];unfold HM;split
  ·rw[Y3 om,Y9 O];have a:=s0 nm l v (n+1) om;have b:=s0 nm l x.2 1 om;unfold HM at a b;dsimp only
   rw[a,b];simp only[Prod.mk.injEq,true_and];omega
  ·have a:=s0 nm l v n h;unfold HM at a;rw[a];rfl
theorem Xfi(nm:Lu)(x:Pq)(l:List Pq):Xe nm (x::l)=if MM x.1 nm=true then(x.2,(Xe nm l).2+1)else Xe nm l:=by
 have e:Xe nm (x::l)=l.foldl (HM nm) (HM nm ([],0) x):=rfl;rw[e,HM];split
 ·rw[Y9 O,s0 nm l x.2 (0+1) om,Yk,Ku]
 ·rfl
theorem sY(nm:Lu):∀(l:List Pq) (v:Lu) (n:Nat),0<n->l.foldl (Jm nm) (v,n)=(v,n+(DD nm l).2)
 | [],v,n,h=>rfl
 | x::l,v,n,h=>by
  rw[Kt];have e:DD nm (x::l)=l.foldl (Jm nm) (Jm nm ([],0) x):=rfl;rw[e];unfold Jm;split
  ·rw[Y3 om,Y9 O];have a:=sY nm l v (n+1) om;have b:=sY nm l x.2 1 om;unfold Jm at a b;dsimp only
   rw[a,b];simp only[Prod.mk.injEq,true_and];omega
  ·have a:=sY nm l v n h;unfold Jm at a;rw[a];rfl
theorem Xvb(nm:Lu)(x:Pq)(l:List Pq):DD nm (x::l)=if x.1=nm then(x.2,(DD nm l).2+1)else DD nm l:=by
 have e:DD nm (x::l)=l.foldl (Jm nm) (Jm nm ([],0) x):=rfl;rw[e,Jm];split
 ·rw[Y9 O,sY nm l x.2 (0+1) om,Yk,Ku]
 ·rfl
end Rq
namespace Go.Proofs.W9
open Gk Pc
open Tryz
theorem Xd5(c:Ui)(w:Wo):Cz 326 [U8 c.toNat] w λv w'=>v=Ab (Cq c)/\w=w':=by
 obtain⟨w0,f⟩:∃w0,w=w0:=⟨_,O⟩
 rw[show(λ(v:Va) (w':Wo)=>v=Ab (Cq c)/\w=w')=(λv w'=>v=Ab (Cq c)/\w0=w')by rw[f]];refine gG 4 (.lk [0,3,4] (σ:=Nat) (λi _m=>(5,Ab (i:Nat))::_m) (λi w=>i<=16/\(∀j,j<i->ie.getD j 0≠c/\CU.getD j 0≠c)/\w=w0) (λi=>16-i) 0 ⟨de,λ_ h=>Yz h om,f⟩ ?_);rintro i w ⟨hi,d,g⟩;have o:ie.length=16:=rfl;have n:CU.length=16:=rfl;refine gN 2 ?_ ?_<;>intro p
 ·refine gH 2 (.val (.LA (l:=ie) (i:=(i:Int)) (.of O) (.of O) om om A8) O (gH 5 (.Aj O O (λb=>.LA (l:=CU) (i:=(i:Int)) (.gd b O) (.gd b O) om om A8) O ?_)));refine gM 3 ?_ ?_<;>intro a m
  ·refine gG 2 (⟨?_,g.symm⟩);rw[cO (c:=c) (i:=i) om];simp only[EC,beq_iff_eq,at_,Yd]at a
   rcases a with h|h
   ·exact .inl (CS.1 om)
   ·exact .inr (CS.1 om)
  refine gG 3 (rd (i+1) ⟨om,λj q=>?_,g⟩);rcases Yt j i with k|k
  ·exact d j k
  ·have e:j=i:=om
   subst e;simp only[EB,beq_eq_false_iff_ne,at_,Yd]at a
   exact⟨λe=>a.1 (by rw[e]),λe=>a.2 (by rw[e])⟩
 exact gG 1 ⟨by rw[Vr (λj q=>d j om)],g.symm⟩
theorem Xti(s:Lu)(i:Int)(e:0<=i)(f:i<=9223372036854775800)(w:Wo):Cz 231 [S s,Ab i] w λv w'=>v=Ab (if(s.length:Int)<=i+2 then -1 else if Cq (at_ s (i+1))<0\/Cq (at_ s (i+2))<0 then -1 else 16*Cq (at_ s (i+1))+Cq (at_ s (i+2)))/\w=w':=by
 refine gN 6 ?_ ?_<;>intro a
 ·exact gG 1 ⟨by rw[Y9 a],O⟩
 refine gC 4 (Xd5 _ _) ?_;rintro _ _ ⟨rfl,rfl⟩;refine gC 5 (Xd5 _ _) ?_;rintro _ _ ⟨rfl,rfl⟩;refine gN 7 ?_ ?_<;>intro b
 ·exact gG 1 ⟨by rw[Y3 om,Y9 b],O⟩
 have c:=fh (at_ s (i+1));have d:=fh (at_ s (i+2));exact gG 5 ⟨by rw[Y3 om,Y3 om],O⟩
theorem eK(s:Lu)(i:Nat):(if(s.length:Int)<=(i:Int)+2 then(-1:Int)else if Cq (at_ s ((i:Int)+1))<0\/Cq (at_ s ((i:Int)+2))<0 then -1 else 16*Cq (at_ s ((i:Int)+1))+Cq (at_ s ((i:Int)+2)))=match told (s.drop (i+1))with|none=>-1|some v=>(v.toNat:Int):=by
 by_cases h:s.length<=i+2
 ·rw[Y9 om]
  have:told (s.drop (i+1))=none:=by
   have b:(s.drop (i+1)).length<=1:=by rw[Y6];omega
   match s.drop (i+1),b with
   | [],_=>rfl
   | [_],_=>rfl
  rw[this]
 ·rw[Y3 om];have a:s.drop (i+1)=at_ s ((i:Int)+1)::at_ s ((i:Int)+2)::s.drop (i+3):=by
   rw[X7 s (show i+1<s.length by omega),X7 s (show i+1+1<s.length by omega)];rfl
  rw[a];simp only[told]
  split
  ·rfl
  ·rename_i e
   have c:=fh (at_ s ((i:Int)+1));have d:=fh (at_ s ((i:Int)+2));exact(Xcv _ _ om om).symm
theorem Xw:prog.info? 5=some t5:=by kernel_rfl
theorem vu:prog.info? 309=some t309:=by kernel_rfl
def Bw(I:Im):Prop:=At I (ad 0 0) (Ao CU)
theorem Bw.mono(h:Bw I)(a:Le I J):Bw J:=At.mono h a
theorem Ri(c:Ui):((((((decide (97<=(c.toNat:Int))&&decide ((c.toNat:Int)<=122))||(decide (65<=(c.toNat:Int))&&decide ((c.toNat:Int)<=90)))||(decide (48<=(c.toNat:Int))&&decide ((c.toNat:Int)<=57)))||((c.toNat:Int)==45))||((c.toNat:Int)==46))||((c.toNat:Int)==95)||((c.toNat:Int)==126))=plain c :=
 eq_of_beq (Xc (p:=λc=>((((((decide (97<=(c.toNat:Int))&&decide ((c.toNat:Int)<=122))||(decide (65<=(c.toNat:Int))&&decide ((c.toNat:Int)<=90)))||(decide (48<=(c.toNat:Int))&&decide ((c.toNat:Int)<=57)))||((c.toNat:Int)==45))||((c.toNat:Int)==46))||((c.toNat:Int)==95)||((c.toNat:Int)==126))==plain c) dk c)
theorem NM(h:n<16):(Ao CU)[n]?=some (U8 (cP n).toNat):=by
 have:∀n:Fin 16,CU[n.val]?=some (cP n.val):=by decide+kernel
 rw[Yr,this ⟨n,h⟩];rfl
theorem Ade(c:Ui):((c.toNat:Int)/2^(4:Int).toNat)=((c.toNat/16:Nat):Int):=by
 show(c.toNat:Int)/16=_
 omega
theorem pT(c:Ui):bits .and .u8 (c.toNat:Int) 15=((c.toNat%16:Nat):Int) :=
 eq_of_beq (Xc (p:=λc=>bits .and .u8 (c.toNat:Int) 15==((c.toNat%16:Nat):Int)) dk c)
theorem lV(c:Ui)(w:Wo):Cz 166 [U8 c.toNat] w λv w'=>v=.bool (plain c)/\w=w':=by
 refine gH 14 (gH 14 ?_);exact gG 12 ⟨Yc Value.bool (Ri c),O⟩
theorem Xg4(c:Ui)(f:Bw I)(N:La)(a:Aa B w I N):Ce B I N 208 [U8 c.toNat] w (S (Fc c)):=by
 refine gG 1 ?_;have d:c.toNat/16<16:=by have:=c.toNat_lt;omega
 have b:c.toNat%16<16:=om
 refine .tail 8 kr kr ?_;replace a:=a.drew;generalize w.drew=w at a ⊢;refine .vm O O (.val (.shr (.of O) (.of O) de de) O ?_);rw[Ade c];refine .val (.Dn (i:=((c.toNat/16:Nat):Int)) (.of O) (.of O) om om MA DT) O ?_;refine .val (.BS (.of O) a (f.add _) Gc (by rw[Hk,ER,Dm];(try rw[Yd]);exact NM d)) O ?_;refine .vm O O (.val (.F7 (.inl O) (.of O) (.of O)) O ?_);rw[pT c];refine .val (.Dn (i:=((c.toNat%16:Nat):Int)) (.of O) (.of O) om om MA DT) O ?_;refine .val (.BS (.of O) a (f.add _) Gc (by rw[Hk,ER,Dm];(try rw[Yd]);exact NM b)) O ?_;refine .nil ?_;show WL _ _ _ _ _ _ _
 refine .dr (gH 1 ?_);intro g w a;refine .val (.Dp (l:=Fc c) (cap:=3) (.of O) a (k:=0) O BV BP A8 (λj h=>by
  have e:j<3:=h
  match j,e with
  | 0,_=>rfl
  | 1,_=>rfl
  | 2,_=>rfl)) O ?_
 exact gG 1 ⟨O,a.s⟩
def RT(c:Ui):Ui:=if 97<=c&&c<=102 then c-32 else c
theorem lE{c:Ui}(h:97<=c.toNat/\c.toNat<=102):(c.toNat:Int)-32=((RT c).toNat:Int):=by
 have:=Xc (p:=λc=>!(decide (97<=c.toNat/\c.toNat<=102))||(c.toNat:Int)-32==((RT c).toNat:Int)) dk c
 simpa[h]using this
theorem lF{c:Ui}(h:¬ (97<=c.toNat/\c.toNat<=102)):RT c=c:=by
 have:=Xc (p:=λc=>decide (97<=c.toNat/\c.toNat<=102)||RT c==c) dk c
 simpa[h]using this
theorem lD{c:Ui}(h:i<16)(a:RT c=CU.getD i 0):Cq c=(i:Int):=by
 have:=Xc (p:=λc=>(List.range 16).all λi=>!(RT c==CU.getD i 0)||Cq c==(i:Int)) dk c
 have:=Dj.1 this i (gq.2 h)
 simpa[a]using this
theorem eQ{c:Ui}(h:∀i,i<16->CU.getD i 0≠RT c):Cq c=-1:=by
 have:=Xc (p:=λc=>(List.range 16).any (λi=>CU.getD i 0==RT c)||Cq c == -1) dk c
 simp only[EC,beq_iff_eq]at this
 rcases this with a|a
 ·obtain⟨i,hi,b⟩:=gh.1 a;simp only[beq_iff_eq]at b
  exact Yz b (h i (gq.1 hi))
 ·exact a
theorem Xnx(c:Ui)(p:Bw I)(N:La)(d:Aa B w I N):Ce B I N 466 [U8 c.toNat] w (Ab (Cq c)):=by
 refine gH 1 (.nil (.p5 (σ:=Ui) (λu=>[(0,U8 u.toNat)]) (λu w=>u=RT c/\Aa B w I N) ?_ ?_))
 ·refine gM 6 ?_ ?_<;>intro b l
  ·refine gH 1 ?_;refine .val (.qY (.of O) (.of O) (by rw[IntKind.wrap_u8];simp only[Y8,dq1]at b;omega)) O ?_;refine gG 1 (⟨RT c,⟨?_,trivial⟩,O,d⟩);have f:97<=c.toNat/\c.toNat<=102:=by simp only[Y8,dq1]at b;omega
   show some (Value.int .u8 ((c.toNat:Int)-32))=some (U8 ((RT c).toNat:Int))
   rw[lE f]
  refine gG 0 (⟨RT c,⟨?_,trivial⟩,O,d⟩);have f:¬ (97<=c.toNat/\c.toNat<=102):=by simp only[Zx,dq2]at b;omega
  show some (U8 (c.toNat:Int))=some (U8 ((RT c).toNat:Int))
  rw[lF f]
 rintro u w ⟨o,d⟩;refine gG 0 (.val (.B5 (.of O) d p isAgg410 sizeOf410 O (λ_ _ h=>h)) O (gG 1 (.lk [0,13] (σ:=Nat) (λi _m=>(14,Ab (i:Nat))::_m) (λi w=>i<=16/\(∀j,j<i->CU.getD j 0≠u)/\Aa B w I N) (λi=>16-i) 0 ⟨de,λ_ h=>Yz h om,d⟩ ?_)));rintro i w ⟨hi,g,d⟩;refine gN 1 ?_ ?_<;>intro m
 ·refine gH 1 ?_;refine .val (.Vx (v:=U8 (CU.getD i 0).toNat) (.of O) (.of O) om om MA DT Gc (by rw[Yr];(try rw[Yd]);rw[Yf,Y2 (show i<CU.length by have:CU.length=16:=rfl;omega)];rfl)) O ?_;refine gM 5 ?_ ?_<;>intro a n
  ·refine gG 2 (⟨?_,d⟩);simp only[beq_iff_eq]at a
   rw[o]at a;rw[lD (c:=c) (i:=i) om (CS.1 om)]
  refine gG 2 (rd (i+1) ⟨om,λj q=>?_,d⟩);rcases Yt j i with k|k
  ·exact g j k
  ·have e:j=i:=om
   subst e;simp only[beq_eq_false_iff_ne]at a
   exact λe=>a (by rw[e])
 refine gG 1 (⟨?_,d⟩);rw[o]at g;rw[eQ (c:=c) (λj q=>g j om)]
def lA(a b:Int):Int:=IntKind.u8.wrap (bits .or .i64 (IntKind.i64.wrap (a*2^(4:Int).toNat)) (bits .and .i64 b 15))
theorem RQ(a b:Ui)(c:0<=Cq a)(d:0<=Cq b):lA (Cq a) (Cq b)=((Pc.byteOf a b).toNat:Int):=by
 rw[Xcv a b c d];have e:=fh a;have f:=fh b;have h:∀x y:Fin 16,lA (x.val:Int) (y.val:Int)=16*(x.val:Int)+(y.val:Int):=by decide+kernel
 have:=h ⟨(Cq a).toNat,om⟩ ⟨(Cq b).toNat,om⟩
 simp only[jC c,jC d]at this
 exact this
theorem XY(s:Lu)(i:Int)(d:0<=i)(e:i<=9223372036854775800)(c:Bw I)(N:La)(a:Aa B w I N):Ce B I N 414 [S s,Ab i] w (if(s.length:Int)<=i+2 then .tuple #[.int .u8 0,.bool false]else .tuple #[.int .u8 (lA (Cq (at_ s (i+1))) (Cq (at_ s (i+2)))),.bool (decide (0<=Cq (at_ s (i+1)))&&decide (0<=Cq (at_ s (i+2))))]):=by
 refine gN 7 ?_ ?_<;>intro b
 ·exact gG 2 ⟨by rw[Y9 b],a⟩
 refine gG 0 (.qt a (.val (λw a=>(.mo O)) O (.val (λw a=>(.mo O)) O (.val (λw a=>(.add (.of O) (.of O) ⟨om,om⟩)) O (.val (λw a=>(.index (.of O) (.of O) om om A8)) O (.call func466 O (A3 O X4) O (λw a=>Xnx (at_ s (i+1)) c _ a) (.val (λw a=>(.mo O)) O (.val (λw a=>(.mo O)) O (.val (λw a=>(.add (.of O) (.of O) ⟨om,om⟩)) O (.val (λw a=>(.index (.of O) (.of O) om om A8)) O (.call func466 O (A3 O X4) O (λw a=>Xnx (at_ s (i+2)) c _ a) (.val (λw a=>(.ao O)) O (.val (λw a=>(.ao O)) O (.nil ?_))))))))))))));intro w a;refine gH 3 (.val (.F7 (.inl O) (.of O) (.of O)) O (.val (.F7 (.inr (.inl O)) (.of O) (.of O)) O (.val (.ET (.of O) B1 BP) O ?_)));exact gG 8 ⟨by rw[Y3 om];rfl,a⟩
theorem Xem(c:Ui)(b:Bool)(h:Bw I)(N:La)(a:Aa B w I N):Ce B I N 454 [U8 c.toNat,.bool b] w (S (if(b&&!plain c)=true then Fc c else[c])):=by
 refine gH 4 (.Au (T:=λw=>Aa B w I N) O O O func166 O (λe=>(X6 (.gd e O) X4)) O (λe=>Pu (lV c w) a) a ?_);clear a;rintro w a;refine gM 2 ?_ ?_<;>intro d f
 ·refine gE 1 (Xg4 c h) ?_;intro w a;exact gG 1 ⟨by rw[Y9 d],a⟩
 refine gH 2 ?_;intro g w a;refine .val (.XI (c:=c) (.of O) a (k:=0) O O BV BP A8) O ?_;exact gG 1 ⟨by rw[Y3 (by rw[d];simp)],a.s⟩
theorem Xa0(a:Nat)(p v:Va)(c:p=.pointer none\/p=ptr a 0)(F:La)(b:Aa B w I (Ac a [p,v] 309::F)):Calls prog 310 #[ptr a 0] w (AY λu w'=>u=.tuple #[]/\Aa B w' I (Ac a [ptr a 0,v] 309::F)):=by
 rcases c with rfl|rfl
 ·refine gG 5 (.Ct (rfl) (gH 2 (.val (.XW (.of O) b (k:=0) O mU MC vu de sz) O (.val (.extern func399 kr kr kr (e:=Extern.AbiNoEscape.same) kr (A3 O X4) (Go.Lib.run_noEscape w _)) O (.val (.Lw (.of O) b (k:=0) O MC mU vu kr) O ?_)))));refine gG 3 ?_;intro w b;exact⟨O,b⟩
 ·refine gG 5 (.Aw (rfl) (gH 5 (.val (.dL (.of O) (.of O) mU vu trivial) O (gG 0 (.Aw (rfl) ?_)))));exact gG 0 ⟨O,b⟩
theorem Xju(a:Nat)(p v:Va)(l:Lu)(c:Ui)(i:p=.pointer none\/p=ptr a 0)(F:La)(b:Aa B w I (Ac a [p,v] 309::An 5 1 v l.length (Ao l)::F))(k:l.length<=140737488000000):Calls prog 206 #[ptr a 0,U8 c.toNat] w (AY λu w'=>u=.nilIface/\∃e,Aa B w' I (Ac a [ptr a 0,e] 309::An 5 1 e (l++[c]).length (Ao (l++[c]))::F)):=by
 refine gE 2 (Xa0 a p v i) ?_;intro w b;obtain⟨m,n,rfl,j,_⟩:=b.vS 1;refine gG 12 ?_;intro g f h d w b;exact⟨O,_,su b⟩
theorem ZW(b:Nat)(p v:Va)(l s:Lu)(g:p=.pointer none\/p=ptr b 0)(F:La)(a:Aa B w I (Ac b [p,v] 309::An 5 1 v l.length (Ao l)::F))(j:l.length+s.length<=140737488000000):Calls prog 207 #[ptr b 0,S s] w (AY λu w'=>u=.tuple #[Ab s.length,.nilIface]/\∃d,Aa B w' I (Ac b [ptr b 0,d] 309::An 5 1 d (l++s).length (Ao (l++s))::F)):=by
 refine gE 3 (Xa0 b p v g) ?_;intro w a;obtain⟨m,n,rfl,h,_⟩:=a.vS 1;refine gH 6 (.Du a (.of O) (.of O) (k:=1) O BV A8 Xw O O O om O ?_);intro i w a;dsimp only[List.set]at a;obtain⟨e,f,rfl,c,_⟩:=a.vS 1;refine gG 7 ?_;intro w a;exact⟨O,_,su a⟩
theorem rL(d:Nat)(p v:Va)(l:Lu)(h:l=[]->v=.slice none 0 0)(F:La)(a:Aa B w I (Ac d [p,v] 309::An 5 1 v l.length (Ao l)::F)):Calls prog 209 #[ptr d 0] w (AY λu w'=>u=S l/\Aa B w' I F):=by
 by_cases b:l=[]
 ·obtain rfl:=h b;subst b;refine gG 1 (.tail 10 kr kr ?_);replace a:=a.drew;generalize w.drew=w at a ⊢;refine .vm O O (.val (.no O) O ?_);refine .val (by exact .fo 1 O fH O O Gz O) O ?_;refine .val (by exact(.lo O a (k:=0) O E1 O)) O ?_;refine .val (.H6 (.of O)) O (.vm O O (.val (.no O) O ?_));refine .val (by exact .fo 1 O fH O O Gz O) O ?_;refine .val (by exact(.lo O a (k:=0) O E1 O)) O ?_;refine .val (.CK (.of O) BV) O (.nil ?_);show WL _ _ _ _ _ _ _
  refine .dr (.val (.EJ (.of O) (.of O)) O ?_);exact gG 1 ⟨O,a.s⟩
 ·have f:0<l.length:=K6.2 b;obtain⟨n,o,r,rfl,i,c,j,m,e⟩:=a.AF (k:=1) O f;clear a;have a:=e;clear e;try dsimp only[List.set]at a
  have g:l.length<=9223372036854775807:=by unfold maxLen at c;omega
  refine gG 1 (.tail 10 kr kr ?_);replace a:=a.drew;generalize w.drew=w at a ⊢;refine .vm O O (.val (.no O) O ?_);refine .val (by exact .fo 1 O fH O O Gz O) O ?_;refine .val (by exact(.lo O a (k:=0) O E1 O)) O ?_;refine .val (.RA (.of O) om) O (.vm O O (.val (.no O) O ?_));refine .val (by exact .fo 1 O fH O O Gz O) O ?_;refine .val (by exact(.lo O a (k:=0) O E1 O)) O ?_;refine .val (.CK (.of O) BV) O (.nil ?_);show WL _ _ _ _ _ _ _
  refine .dr (.unsafeString a (k:=1) O (.of O) (.of O) b Ta kr om O ?_);intro w a;try dsimp only[List.eraseIdx]at a
  exact gG 1 ⟨O,a.s⟩
theorem O0(c:Ui)(b:Bw I)(N:La)(a:Aa B w I N):Calls prog 454 #[U8 c.toNat,.bool false] w (AY λv w'=>v=S [c]/\Aa B w' I N) :=
 (Xem c false b N a).mono λe w' d=>by
  obtain⟨v,rfl,rfl,h⟩:=d;exact⟨_,O,by simp,h⟩
theorem O1(c:Ui)(b:Bw I)(N:La)(a:Aa B w I N):Calls prog 454 #[U8 c.toNat,.bool true] w (AY λv w'=>v=S (GC c)/\Aa B w' I N) :=
 (Xem c true b N a).mono λe w' d=>by
  obtain⟨v,rfl,rfl,h⟩:=d;refine⟨_,O,?_,h⟩;unfold GC;cases plain c<;>rfl
theorem XZ(s:Lu)(i:Nat)(l:i<=9223372036854775800)(j:Bw I)(N:La)(g:Aa B w I N):Calls prog 414 #[S s,Ab (i:Nat)] w (AY λv w'=>∃d ok,v=.tuple #[.int .u8 d,.bool ok]/\(match Pc.told (s.drop (i+1))with|none=>ok=false|some b=>ok=true/\d=(b.toNat:Int))/\Aa B w' I N) :=
 (XY s (i:Int) om om j N g).mono λe w' k=>by
  obtain⟨v,rfl,rfl,h⟩:=k
  by_cases a:s.length<=i+2
  ·have:Pc.told (s.drop (i+1))=none:=by
    have a:(s.drop (i+1)).length<=1:=by rw[Y6];omega
    match s.drop (i+1),a with
    | [],_=>rfl
    | [_],_=>rfl
   rw[Y9 om,this];exact⟨_,O,0,false,O,O,h⟩
  ·have f:s.drop (i+1)=at_ s ((i:Int)+1)::at_ s ((i:Int)+2)::s.drop (i+3):=by
    rw[X7 s (show i+1<s.length by omega),X7 s (show i+1+1<s.length by omega)];rfl
   rw[Y3 om,f];refine⟨_,O,_,_,O,?_,h⟩;simp only[Pc.told]
   by_cases c:Cq (at_ s ((i:Int)+1))<0\/Cq (at_ s ((i:Int)+2))<0
   ·rw[Y9 c];simp only[Zx,dq2]
    omega
   ·rw[Y3 c];refine⟨?_,RQ _ _ om om⟩;simp only[Y8,dq1]
    omega
theorem UU(s:Lu)(E:s.length<=1000000)(m:Bw I)(N:La)(a:Aa B w I N):Ce B I N 335 [S s,.func (.func 454) #[] #[]] w (match D7 s with|none=>.tuple #[S [],Ab 11]|some t=>.tuple #[S t,Ab 0]):=by
 refine gG 4 ?_;intro k w a;replace a:=(a.Ai 5 1).pick 1 O;refine .lk [0,1,6] (σ:=Lu×Va×Va×Nat) (λ(out,p,v,i) _m=>(7,Ab (i:Nat))::_m) (λ(out,p,v,i) w=>i<=s.length/\out.length+(s.length-i)*3<=s.length*3/\D7 s=(D7 (s.drop i)).map (out++·)/\(p=.pointer none\/p=ptr k 0)/\(out=[]->v=.slice none 0 0)/\Aa B w I (Ac k [p,v] 309::An 5 1 v (out).length (Ao (out))::N)) (λ(out,p,v,i)=>s.length-i) ([],.pointer none,.slice none 0 0,0) ⟨Y4 _,by simp,by simp,.inl O,λ_=>rfl,a⟩ ?_;rintro⟨out,p,v,i⟩ w ⟨hi,D,g,C,o,a⟩;refine gN 4 ?_ ?_<;>intro y
 ·refine gM 4 ?_ ?_<;>intro c z
  ·refine gH 4 (.Bv (cap:=[]) func454 O (.of O) (A3 O (A3 O X4)) O (O0 (at_ s (i:Int)) m _ a) ?_);rintro _ w ⟨rfl,a⟩;refine gC 0 (ZW k p v out _ C _ a (by simp only[Y5,Yh];omega)) ?_;rintro _ w ⟨rfl,u,a⟩;refine gG 3 ?_;have f:at_ s (i:Int)≠37:=λe=>by rw[e]at c;simp at c
   refine A_ (_,_,u,i+1) O ⟨om,by rw[Y0];simp only[Y5,Yh];omega,?_,.inr O,λh=>Yz h sz,a⟩;rw[g,X7 s om,iJ,Y3 f];cases D7 (s.drop (i+1))<;>simp
  refine gF 2 (XZ s i om m) ?_;rintro _ w ⟨F,ok,rfl,b,a⟩;refine gM 7 ?_ ?_<;>intro d A
  ·refine gG 2 (⟨?_,a.s⟩);have f:at_ s (i:Int)=37:=CS.1 (by simp only[bne_eq_false_iff_eq]at c;show(at_ s (i:Int)).toNat=37;omega);have l:Pc.told (s.drop (i+1))=none:=by
    cases l:Pc.told (s.drop (i+1))with
    | none=>rfl
    | some v=>rw[l]at b;rw[b.1]at d;simp at d
   have:D7 s=none:=by rw[g,X7 s om,iJ,Y9 f,l];rfl
   rw[this]
  have f:at_ s (i:Int)=37:=CS.1 (by simp only[bne_eq_false_iff_eq]at c;show(at_ s (i:Int)).toNat=37;omega);obtain⟨x,q⟩:∃v,Pc.told (s.drop (i+1))=some v:=by
   cases l:Pc.told (s.drop (i+1))with
   | some v=>exact⟨v,O⟩
   | none=>rw[l]at b;simp only at b;rw[b]at d;simp at d
  rw[q]at b;obtain⟨_,rfl⟩:=b;have r:=Z4 q;rw[Y6]at r;have n:(GC x).length<=3:=by unfold GC;split<;>simp[Fc]
  have j:out++GC x≠[]:=λe=>by
   have:=(List.append_eq_nil_iff.1 e).2
   unfold GC at this;split at this<;>simp[Fc]at this
  refine gH 2 (.Bv (cap:=[]) func454 O (.of O) (A3 O (A3 O X4)) O (O1 x m _ a) ?_);rintro _ w ⟨rfl,a⟩;refine gC 0 (ZW k p v out _ C _ a om) ?_;rintro _ w ⟨rfl,u,a⟩;refine gG 6 (A_ (_,_,u,i+3) O ⟨om,by rw[Y0];omega,?_,.inr O,λh=>Yz h j,a⟩);rw[g,X7 s om,iJ,Y9 f,q];simp only[Gj]
  cases D7 (s.drop (i+3))<;>simp[Yg,pQ]
 refine gE 0 (rL k p v out o) ?_;intro w a;refine gG 2 (⟨?_,a⟩)
 have:D7 s=some out:=by rw[g,Yb om,oO];simp
 rw[this]
theorem kh(s:Lu)(g:s.length<=1000000)(d:Bw I)(N:La)(c:Aa B w I N):Calls prog 335 #[S s,.func (.func 454) #[] #[]] w (AY λv w'=>∃a b,v=.tuple #[a,b]/\.tuple #[a,b]=(match D7 s with|none=>Value.tuple #[S [],Ab 11]|some t=>.tuple #[S t,Ab 0])/\Aa B w' I N) :=
 (UU s g d N c).mono λe w' f=>by
  obtain⟨v,rfl,rfl,h⟩:=f;cases D7 s with
  | none=>exact⟨_,O,_,_,O,O,h⟩
  | some t=>exact⟨_,O,_,_,O,O,h⟩
theorem Xt1(s:Lu)(c:s.length<=1000000)(b:Bw I)(N:La)(a:Aa B w I N):Ce B I N 398 [S s] w (match D7 s with|none=>.tuple #[S [],Ab 11]|some t=>.tuple #[S t,Ab 0]):=by
 refine gF 3 (kh s c b) ?_;rintro _ w ⟨e,f,rfl,d,a⟩;exact gG 4 ⟨d,a⟩
end Go.Proofs.W9
namespace Go.Proofs
open Go.Shelf
open Tryz
def Tryz.EY:Go.Shelf.Ren:=⟨λ|156=>347|165=>420|166=>207|169=>209|240=>310|241=>468|276=>399|277=>484|n=>n,λ|31=>39|9=>9|3=>3|4=>4|0=>0|20=>20|72=>309|76=>313|70=>307|37=>46|75=>311|127=>411|164=>475|5=>5|80=>316|n=>n,λ|n=>n⟩
theorem Tryz.dD:Go.Proofs.Lays.n156 prog EY:={
 mixed:=by kernel_rfl
 f156:=func347.trans (Yc some kr)
 f165:=func420.trans (Yc some kr)
 f166:=func207.trans (Yc some kr)
 f169:=func209.trans (Yc some kr)
 f240:=func310.trans (Yc some kr)
 f241:=func468.trans (Yc some kr)
 f276:=func399.trans (Yc some kr)
 f277:=func484.trans (Yc some kr)
 t0:=im
 a0:=ik
 z0:=il
 v0:=ix
 t3:=B1
 a3:=BJ
 z3:=Bl
 v3:=Ph
 t4:=KJ
 a4:=IL
 z4:=DO
 v4:=Tp
 t9:=A8
 a9:=Bg
 z9:=AQ
 v9:=KL
 t20:=iq
 a20:=isAgg20
 z20:=sizeOf20
 v20:=iy
 t31:=D6
 a31:=SY
 z31:=IV
 v31:=ZS
 t37:=BV
 a37:=E1
 z37:=Gz
 v37:=ZT
 t70:=mU
 a70:=isAgg307
 z70:=Mt
 v70:=zeroValue307
 t72:=fH
 a72:=isAgg309
 z72:=sizeOf309
 v72:=Tn
 t75:=underlying311
 a75:=isAgg311
 z75:=sizeOf311
 v75:=zeroValue311
 t76:=underlying313
 a76:=isAgg313
 z76:=sizeOf313
 v76:=zeroValue313
 t127:=Ta
 a127:=isAgg411
 z127:=sizeOf411
 v127:=zeroValue411
 t164:=MC
 a164:=isAgg475
 z164:=sizeOf475
 v164:=zeroValue475 }
theorem Tryz.D1:Builder.Extra prog EY:={
 sizeBuilder:=by kernel_rfl
 liesBuilder:=by kernel_rfl
 t5:=BP
 a5:=Gc
 z5:=DT
 v5:=MG
 infoByte:=by kernel_rfl
 cellsByte:=by kernel_rfl
 sizeByte:=by kernel_rfl
 neB5:=by decide }
open Go.RowKit in
theorem strings_Join(g o c:Nat)(xs:List ByteArray)(b:ByteArray)(w:Wo)(a:∀(j:Nat) x,xs[j]?=some x->w.cell? ⟨g,o+j,none⟩=some (.string x))(h:g<w.heap.size)(i:xs.length<=140737488355328)(d:xs.length<=c)(f:(Lib.join (xs.map (·.data.toList)) b.data.toList).length<=140737488355328):Calls prog 347 #[.slice (some ⟨g,o,none⟩) xs.length c,.string b] w λe w'=>e=.returned (.string ⟨(Lib.join (xs.map (·.data.toList)) b.data.toList).toArray⟩)/\Below w.heap.size w w':=Any.strings_Join dD D1 g o c xs b w a h i d f
def Tryz.JK:Go.Shelf.Ren:=⟨λ|160=>145|232=>239|231=>238|227=>240|234=>242|233=>241|236=>244|235=>243|228=>337|271=>340|151=>339|197=>338|120=>417|152=>416|260=>415|137=>453|119=>467|224=>333|225=>332|217=>331|266=>412|n=>n,λ|9=>9|4=>4|3=>3|5=>5|117=>339|116=>338|0=>0|124=>342|21=>21|105=>431|46=>291|119=>526|139=>529|138=>528|n=>n,λ|3=>6|4=>7|n=>n⟩
theorem Tryz.NW:Go.Proofs.Lays.n160 prog JK:={
 mixed:=by kernel_rfl
 f119:=IJ.trans (Yc some kr)
 f120:=func417.trans (Yc some kr)
 f137:=FL.trans (Yc some kr)
 f151:=func339.trans (Yc some kr)
 f152:=func416.trans (Yc some kr)
 f160:=func145.trans (Yc some kr)
 f197:=func338.trans (Yc some kr)
 f217:=FJ.trans (Yc some kr)
 f224:=G2.trans (Yc some kr)
 f225:=G1.trans (Yc some kr)
 f227:=func240.trans (Yc some kr)
 f228:=func337.trans (Yc some kr)
 f231:=func238.trans (Yc some kr)
 f232:=func239.trans (Yc some kr)
 f233:=func241.trans (Yc some kr)
 f234:=func242.trans (Yc some kr)
 f235:=func243.trans (Yc some kr)
 f236:=func244.trans (Yc some kr)
 f260:=func415.trans (Yc some kr)
 f266:=FK.trans (Yc some kr)
 f271:=func340.trans (Yc some kr)
 t0:=im
 a0:=ik
 z0:=il
 v0:=ix
 t3:=B1
 a3:=BJ
 z3:=Bl
 v3:=Ph
 t4:=KJ
 a4:=IL
 z4:=DO
 v4:=Tp
 t5:=BP
 a5:=Gc
 z5:=DT
 v5:=MG
 t9:=A8
 a9:=Bg
 z9:=AQ
 v9:=KL
 t21:=KF
 a21:=O4
 z21:=O8
 v21:=Pg
 t46:=jf
 a46:=ja
 z46:=jb
 v46:=ji
 t105:=Tb
 a105:=isAgg431
 z105:=sizeOf431
 v105:=Tq
 t116:=underlying338
 a116:=isAgg338
 z116:=sizeOf338
 t117:=underlying339
 a117:=isAgg339
 z117:=sizeOf339
 v117:=zeroValue339
 t119:=Tf
 a119:=isAgg526
 z119:=sizeOf526
 t124:=underlying342
 a124:=isAgg342
 z124:=sizeOf342
 v124:=zeroValue342
 t138:=Tg
 a138:=isAgg528
 z138:=sizeOf528
 v138:=Tu
 t139:=Th
 a139:=isAgg529
 z139:=sizeOf529
 v139:=Tv
 g3:=by kernel_rfl
 g4:=by kernel_rfl }
open Go.RowKit in
theorem strings_Trim_one(s:ByteArray)(c:Ui)(a:c.toNat<128)(w:Wo)(b:s.size<=9223372036854775807):Calls prog 145 #[.string s,.string ⟨#[c]⟩] w λe w'=>e=.returned (.string ⟨(Lib.trimB s.data.toList c).toArray⟩)/\(w'=w\/w'=w.drew):=Any.strings_Trim_one NW s c a w b
def Tryz.JE:Go.Shelf.Ren:=⟨λ|119=>467|n=>n,λ|21=>21|4=>4|n=>n,λ|n=>n⟩
theorem Tryz.df:Go.Proofs.Lays.n119 prog JE:={
 mixed:=by kernel_rfl
 f119:=IJ.trans (Yc some kr)
 t4:=KJ
 a4:=IL
 z4:=DO
 v4:=Tp
 t21:=KF
 a21:=O4
 z21:=O8
 v21:=Pg }
theorem Tryz.utf8_ValidRune(r:Int)(w:Wo):Calls prog 467 #[.int .i32 r] w λe w'=>e=.returned (.bool (Lib.validRune r))/\w'=w:=Any.utf8_ValidRune df r w
def Tryz.JD:Go.Shelf.Ren:=⟨λ|106=>172|213=>268|265=>363|n=>n,λ|9=>9|3=>3|n=>n,λ|n=>n⟩
theorem Tryz.c_:Go.Proofs.Lays.n106 prog JD:={
 mixed:=by kernel_rfl
 f106:=func172.trans (Yc some kr)
 f213:=func268.trans (Yc some kr)
 f265:=func363.trans (Yc some kr)
 t3:=B1
 a3:=BJ
 z3:=Bl
 v3:=Ph
 t9:=A8
 a9:=Bg
 z9:=AQ
 v9:=KL }
open Go.RowKit in
theorem strings_Compare(a b:ByteArray)(w:Wo):Calls prog 172 #[.string a,.string b] w λe w'=>e=.returned (.int .i64 (Lib.compareBytes a.data.toList b.data.toList))/\w'=w:=Any.strings_Compare c_ a b w
def Tryz.JF:Go.Shelf.Ren:=⟨λ|137=>453|217=>331|266=>412|n=>n,λ|9=>9|5=>5|3=>3|n=>n,λ|n=>n⟩
theorem Tryz.dv:Go.Proofs.Lays.n137 prog JF:={
 mixed:=by kernel_rfl
 f137:=FL.trans (Yc some kr)
 f217:=FJ.trans (Yc some kr)
 f266:=FK.trans (Yc some kr)
 t3:=B1
 a3:=BJ
 z3:=Bl
 v3:=Ph
 t5:=BP
 a5:=Gc
 z5:=DT
 v5:=MG
 t9:=A8
 a9:=Bg
 z9:=AQ
 v9:=KL }
open Go.RowKit in
theorem strings_IndexByte(s:ByteArray)(c:Int)(w:Wo):Calls prog 453 #[.string s,.int .u8 c] w λe w'=>e=.returned (.int .i64 (Lib.indexByte s.data.toList c.toNat.toUInt8))/\w'=w:=Any.strings_IndexByte dv s c w
def Tryz.HY:Go.Shelf.Ren:=⟨λ|171=>136|243=>232|246=>327|283=>406|284=>407|285=>408|286=>409|129=>362|317=>462|318=>463|319=>464|320=>465|337=>482|338=>483|n=>n,λ|3=>3|9=>9|2=>2|4=>4|171=>481|0=>0|53=>73|37=>46|5=>5|173=>483|212=>524|51=>450|20=>20|213=>525|46=>291|232=>95|233=>545|n=>n,λ|17=>5|18=>9|19=>10|n=>n⟩
theorem Tryz.VH:Go.Proofs.LaysM.n171 prog HY:={
 mixed:=by kernel_rfl
 f129:=func362.trans (Yc some kr)
 f171:=func136.trans (Yc some kr)
 f243:=func232.trans (Yc some kr)
 f246:=func327.trans (Yc some kr)
 f283:=func406.trans (Yc some kr)
 f284:=func407.trans (Yc some kr)
 f285:=func408.trans (Yc some kr)
 f286:=func409.trans (Yc some kr)
 f317:=func462.trans (Yc some kr)
 f318:=func463.trans (Yc some kr)
 f319:=func464.trans (Yc some kr)
 f320:=func465.trans (Yc some kr)
 f337:=func482.trans (Yc some kr)
 f338:=func483.trans (Yc some kr)
 t0:=im
 a0:=ik
 z0:=il
 v0:=ix
 t2:=underlying2
 a2:=isAgg2
 z2:=sizeOf2
 v2:=zeroValue2
 t3:=B1
 a3:=BJ
 z3:=Bl
 v3:=Ph
 t4:=KJ
 a4:=IL
 z4:=DO
 v4:=Tp
 t5:=BP
 a5:=Gc
 z5:=DT
 v5:=MG
 t9:=A8
 a9:=Bg
 z9:=AQ
 v9:=KL
 t20:=iq
 a20:=isAgg20
 z20:=sizeOf20
 v20:=iy
 t37:=BV
 a37:=E1
 z37:=Gz
 v37:=ZT
 t46:=jf
 a46:=ja
 z46:=jb
 v46:=ji
 t51:=MP
 a51:=IM
 z51:=IW
 v51:=MF
 t53:=Ti
 a53:=isAgg73
 z53:=sizeOf73
 v53:=zeroValue73
 t171:=underlying481
 a171:=isAgg481
 z171:=sizeOf481
 v171:=zeroValue481
 t173:=underlying483
 a173:=isAgg483
 z173:=sizeOf483
 v173:=zeroValue483
 t212:=underlying524
 a212:=isAgg524
 z212:=sizeOf524
 v212:=zeroValue524
 t213:=underlying525
 a213:=isAgg525
 z213:=sizeOf525
 t232:=underlying95
 a232:=isAgg95
 z232:=sizeOf95
 v232:=zeroValue95
 t233:=underlying545
 a233:=isAgg545
 z233:=sizeOf545
 v233:=zeroValue545
 g17:=by kernel_rfl
 g18:=by kernel_rfl
 g19:=by kernel_rfl
 i0:=by kernel_rfl
 i2:=by kernel_rfl
 i3:=by kernel_rfl
 i4:=by kernel_rfl
 i5:=by kernel_rfl
 i9:=by kernel_rfl
 i20:=by kernel_rfl
 i37:=by kernel_rfl
 i46:=by kernel_rfl
 i51:=by kernel_rfl
 i53:=by kernel_rfl
 i171:=by kernel_rfl
 i173:=by kernel_rfl
 i212:=by kernel_rfl
 i232:=by kernel_rfl
 i233:=by kernel_rfl
 m17:=by kernel_rfl
 m18:=by kernel_rfl
 m19:=by kernel_rfl }
open Go.RowKit Go.Sort Go.Lib in
theorem strconv_Itoa(n : Int)(b : -9223372036854775808 ≤ n)(c : n ≤ 9223372036854775807)(w : World)(a : Lib.TabIs prog w "internal/strconv.uint64pow10" .u64 Lib.pow10Tab):Calls prog 136 #[.int .i64 n] w λe w'=>e=.returned (.string ⟨(Lib.itoa n).toArray⟩)/\∃k os,w'=grow (w.drewN k) os:=Any.strconv_Itoa VH n b c w a
def Tryz.JG:Go.Shelf.Ren:=⟨λ|145=>85|220=>143|219=>236|217=>331|225=>332|224=>333|267=>334|266=>412|314=>413|n=>n,λ|9=>9|4=>4|59=>178|3=>3|5=>5|46=>291|146=>485|51=>450|n=>n,λ|1=>1|n=>n⟩
theorem Tryz.dx:Go.Proofs.Lays.n145 prog JG:={
 mixed:=by kernel_rfl
 f145:=func85.trans (Yc some kr)
 f217:=FJ.trans (Yc some kr)
 f219:=func236.trans (Yc some kr)
 f220:=func143.trans (Yc some kr)
 f224:=G2.trans (Yc some kr)
 f225:=G1.trans (Yc some kr)
 f266:=FK.trans (Yc some kr)
 f267:=func334.trans (Yc some kr)
 f314:=func413.trans (Yc some kr)
 t3:=B1
 a3:=BJ
 z3:=Bl
 v3:=Ph
 t4:=KJ
 a4:=IL
 z4:=DO
 v4:=Tp
 t5:=BP
 a5:=Gc
 z5:=DT
 v5:=MG
 t9:=A8
 a9:=Bg
 z9:=AQ
 v9:=KL
 t46:=jf
 a46:=ja
 z46:=jb
 v46:=ji
 t51:=MP
 a51:=IM
 z51:=IW
 v51:=MF
 t59:=underlying178
 a59:=isAgg178
 z59:=sizeOf178
 v59:=zeroValue178
 t146:=Td
 a146:=isAgg485
 z146:=sizeOf485
 v146:=Ts
 g1:=by kernel_rfl }
open Go.RowKit Go.Lib in
theorem strings_Cut(s a:ByteArray)(m:Int)(w:Wo)(c:s.size<4294967281)(b:w.cell? ⟨1,0,none⟩=some (.int .i64 m)):Calls prog 85 #[.string s,.string a] w λe w'=>e=.returned (.tuple #[.string ⟨(Lib.cut s.data.toList a.data.toList).1.toArray⟩,.string ⟨(Lib.cut s.data.toList a.data.toList).2.1.toArray⟩,.bool (Lib.cut s.data.toList a.data.toList).2.2])/\∃n,w'=w.drewN n:=Any.strings_Cut dx s a m w c b
def Tryz.LI:Go.Shelf.Ren:=⟨λ|99=>234|206=>293|n=>n,λ|9=>9|4=>4|3=>3|n=>n,λ|n=>n⟩
theorem Tryz.kL:Go.Proofs.Lays.n99 prog LI:={
 mixed:=by kernel_rfl
 f99:=IH.trans (Yc some kr)
 f206:=func293.trans (Yc some kr)
 t3:=B1
 a3:=BJ
 z3:=Bl
 v3:=Ph
 t4:=KJ
 a4:=IL
 z4:=DO
 v4:=Tp
 t9:=A8
 a9:=Bg
 z9:=AQ
 v9:=KL }
open Go.RowKit Go.Lib in
theorem strings_HasPrefix(s p:ByteArray)(w:Wo):Calls prog 234 #[.string s,.string p] w λe w'=>e=.returned (.bool (Lib.hasPrefix s.data.toList p.data.toList))/\w'=w:=Any.strings_HasPrefix kL s p w
def Tryz.JH:Go.Shelf.Ren:=⟨λ|146=>138|221=>233|268=>328|138=>329|143=>330|195=>410|197=>338|218=>411|219=>236|260=>415|217=>331|225=>332|224=>333|267=>334|266=>412|314=>413|n=>n,λ|9=>9|31=>39|3=>3|4=>4|0=>0|105=>431|21=>21|5=>5|46=>291|119=>526|139=>529|138=>528|146=>485|51=>450|n=>n,λ|1=>1|3=>6|4=>7|n=>n⟩
theorem Tryz.dy:Go.Proofs.Lays.n146 prog JH:={
 mixed:=by kernel_rfl
 f138:=func329.trans (Yc some kr)
 f143:=func330.trans (Yc some kr)
 f146:=func138.trans (Yc some kr)
 f195:=func410.trans (Yc some kr)
 f197:=func338.trans (Yc some kr)
 f217:=FJ.trans (Yc some kr)
 f218:=func411.trans (Yc some kr)
 f219:=func236.trans (Yc some kr)
 f221:=func233.trans (Yc some kr)
 f224:=G2.trans (Yc some kr)
 f225:=G1.trans (Yc some kr)
 f260:=func415.trans (Yc some kr)
 f266:=FK.trans (Yc some kr)
 f267:=func334.trans (Yc some kr)
 f268:=func328.trans (Yc some kr)
 f314:=func413.trans (Yc some kr)
 t0:=im
 a0:=ik
 z0:=il
 v0:=ix
 t3:=B1
 a3:=BJ
 z3:=Bl
 v3:=Ph
 t4:=KJ
 a4:=IL
 z4:=DO
 v4:=Tp
 t5:=BP
 a5:=Gc
 z5:=DT
 v5:=MG
 t9:=A8
 a9:=Bg
 z9:=AQ
 v9:=KL
 t21:=KF
 a21:=O4
 z21:=O8
 v21:=Pg
 t31:=D6
 a31:=SY
 z31:=IV
 v31:=ZS
 t46:=jf
 a46:=ja
 z46:=jb
 v46:=ji
 t51:=MP
 a51:=IM
 z51:=IW
 v51:=MF
 t105:=Tb
 a105:=isAgg431
 z105:=sizeOf431
 v105:=Tq
 t119:=Tf
 a119:=isAgg526
 z119:=sizeOf526
 t138:=Tg
 a138:=isAgg528
 z138:=sizeOf528
 v138:=Tu
 t139:=Th
 a139:=isAgg529
 z139:=sizeOf529
 v139:=Tv
 t146:=Td
 a146:=isAgg485
 z146:=sizeOf485
 v146:=Ts
 g1:=by kernel_rfl
 g3:=by kernel_rfl
 g4:=by kernel_rfl }
open Go.RowKit Go.Lib in
theorem strings_Split(s a:ByteArray)(m:Int)(w:Wo)(d:s.size<4294967281)(c:w.cell? ⟨1,0,none⟩=some (.int .i64 m))(b:1<=a.size):Calls prog 138 #[.string s,.string a] w λe w' =>
   e=.returned (.slice (some ⟨w.heap.size,0,none⟩) (Lib.countB s a+1) (Lib.countB s a+1))/\w'=w.alloc (.cells ((Lib.splitB a 0 (Lib.countB s a) s).map Value.string).toArray 9):=Any.strings_Split dy (by kernel_rfl) s a m w d c b
def Tryz.EX:Go.Shelf.Ren:=⟨λ|155=>458|154=>479|138=>329|165=>420|143=>330|166=>207|197=>338|169=>209|195=>410|218=>411|240=>310|241=>468|219=>236|260=>415|276=>399|277=>484|217=>331|225=>332|224=>333|267=>334|266=>412|314=>413|n=>n,λ|9=>9|3=>3|4=>4|72=>309|0=>0|76=>313|105=>431|21=>21|5=>5|70=>307|20=>20|37=>46|75=>311|127=>411|164=>475|46=>291|119=>526|139=>529|138=>528|146=>485|51=>450|80=>316|n=>n,λ|1=>1|3=>6|4=>7|n=>n⟩
theorem Tryz.dC:Go.Proofs.Lays.n155 prog EX:={
 mixed:=by kernel_rfl
 f138:=func329.trans (Yc some kr)
 f143:=func330.trans (Yc some kr)
 f154:=func479.trans (Yc some kr)
 f155:=func458.trans (Yc some kr)
 f165:=func420.trans (Yc some kr)
 f166:=func207.trans (Yc some kr)
 f169:=func209.trans (Yc some kr)
 f195:=func410.trans (Yc some kr)
 f197:=func338.trans (Yc some kr)
 f217:=FJ.trans (Yc some kr)
 f218:=func411.trans (Yc some kr)
 f219:=func236.trans (Yc some kr)
 f224:=G2.trans (Yc some kr)
 f225:=G1.trans (Yc some kr)
 f240:=func310.trans (Yc some kr)
 f241:=func468.trans (Yc some kr)
 f260:=func415.trans (Yc some kr)
 f266:=FK.trans (Yc some kr)
 f267:=func334.trans (Yc some kr)
 f276:=func399.trans (Yc some kr)
 f277:=func484.trans (Yc some kr)
 f314:=func413.trans (Yc some kr)
 t0:=im
 a0:=ik
 z0:=il
 v0:=ix
 t3:=B1
 a3:=BJ
 z3:=Bl
 v3:=Ph
 t4:=KJ
 a4:=IL
 z4:=DO
 v4:=Tp
 t5:=BP
 a5:=Gc
 z5:=DT
 v5:=MG
 t9:=A8
 a9:=Bg
 z9:=AQ
 v9:=KL
 t20:=iq
 a20:=isAgg20
 z20:=sizeOf20
 v20:=iy
 t21:=KF
 a21:=O4
 z21:=O8
 v21:=Pg
 t37:=BV
 a37:=E1
 z37:=Gz
 v37:=ZT
 t46:=jf
 a46:=ja
 z46:=jb
 v46:=ji
 t51:=MP
 a51:=IM
 z51:=IW
 v51:=MF
 t70:=mU
 a70:=isAgg307
 z70:=Mt
 v70:=zeroValue307
 t72:=fH
 a72:=isAgg309
 z72:=sizeOf309
 v72:=Tn
 t75:=underlying311
 a75:=isAgg311
 z75:=sizeOf311
 v75:=zeroValue311
 t76:=underlying313
 a76:=isAgg313
 z76:=sizeOf313
 v76:=zeroValue313
 t105:=Tb
 a105:=isAgg431
 z105:=sizeOf431
 v105:=Tq
 t119:=Tf
 a119:=isAgg526
 z119:=sizeOf526
 t127:=Ta
 a127:=isAgg411
 z127:=sizeOf411
 v127:=zeroValue411
 t138:=Tg
 a138:=isAgg528
 z138:=sizeOf528
 v138:=Tu
 t139:=Th
 a139:=isAgg529
 z139:=sizeOf529
 v139:=Tv
 t146:=Td
 a146:=isAgg485
 z146:=sizeOf485
 v146:=Ts
 t164:=MC
 a164:=isAgg475
 z164:=sizeOf475
 v164:=zeroValue475
 g1:=by kernel_rfl
 g3:=by kernel_rfl
 g4:=by kernel_rfl }
theorem Tryz.D0:Builder.Extra prog EX:={
 sizeBuilder:=by kernel_rfl
 liesBuilder:=by kernel_rfl
 t5:=BP
 a5:=Gc
 z5:=DT
 v5:=MG
 infoByte:=by kernel_rfl
 cellsByte:=by kernel_rfl
 sizeByte:=by kernel_rfl
 neB5:=by decide }
open Go.RowKit Go.Lib in
theorem strings_ReplaceAll(s a b:ByteArray)(m:Int)(w:Wo)(g:s.size<4294967281)(f:w.cell? ⟨1,0,none⟩=some (.int .i64 m))(d:1<=a.size)(c:s.size+Lib.countB s a*b.size<=140737488355328):Calls prog 458 #[.string s,.string a,.string b] w λe w' =>
   e=.returned (.string ⟨(Lib.replaceAll s.data.toList a.data.toList b.data.toList).toArray⟩)/\Below w.heap.size w w':=Any.strings_ReplaceAll dC D0 s a b m w g f d c
def Tryz.JI:Go.Shelf.Ren:=⟨λ|152=>416|137=>453|119=>467|224=>333|225=>332|217=>331|266=>412|n=>n,λ|9=>9|21=>21|3=>3|4=>4|5=>5|0=>0|46=>291|n=>n,λ|n=>n⟩
theorem Tryz.dz:Go.Proofs.Lays.n152 prog JI:={
 mixed:=by kernel_rfl
 f119:=IJ.trans (Yc some kr)
 f137:=FL.trans (Yc some kr)
 f152:=func416.trans (Yc some kr)
 f217:=FJ.trans (Yc some kr)
 f224:=G2.trans (Yc some kr)
 f225:=G1.trans (Yc some kr)
 f266:=FK.trans (Yc some kr)
 t0:=im
 a0:=ik
 z0:=il
 v0:=ix
 t3:=B1
 a3:=BJ
 z3:=Bl
 v3:=Ph
 t4:=KJ
 a4:=IL
 z4:=DO
 v4:=Tp
 t5:=BP
 a5:=Gc
 z5:=DT
 v5:=MG
 t9:=A8
 a9:=Bg
 z9:=AQ
 v9:=KL
 t21:=KF
 a21:=O4
 z21:=O8
 v21:=Pg
 t46:=jf
 a46:=ja
 z46:=jb
 v46:=ji }
open Go.RowKit Go.Lib in
theorem strings_IndexRune_ascii(s:ByteArray)(r:Int)(w:Wo)(a:0<=r)(b:r<128):Calls prog 416 #[.string s,.int .i32 r] w λe w'=>e=.returned (.int .i64 (Lib.indexByte s.data.toList r.toNat.toUInt8))/\w'=w:=Any.strings_IndexRune_ascii dz s r w a b
def Tryz.JJ:Go.Shelf.Ren:=⟨λ|153=>395|152=>416|226=>452|227=>240|228=>337|137=>453|119=>467|224=>333|225=>332|217=>331|266=>412|n=>n,λ|9=>9|3=>3|4=>4|5=>5|21=>21|117=>339|116=>338|0=>0|46=>291|124=>342|n=>n,λ|n=>n⟩
theorem Tryz.dA:Go.Proofs.Lays.n153 prog JJ:={
 mixed:=by kernel_rfl
 f119:=IJ.trans (Yc some kr)
 f137:=FL.trans (Yc some kr)
 f152:=func416.trans (Yc some kr)
 f153:=func395.trans (Yc some kr)
 f217:=FJ.trans (Yc some kr)
 f224:=G2.trans (Yc some kr)
 f225:=G1.trans (Yc some kr)
 f226:=func452.trans (Yc some kr)
 f227:=func240.trans (Yc some kr)
 f228:=func337.trans (Yc some kr)
 f266:=FK.trans (Yc some kr)
 t0:=im
 a0:=ik
 z0:=il
 v0:=ix
 t3:=B1
 a3:=BJ
 z3:=Bl
 v3:=Ph
 t4:=KJ
 a4:=IL
 z4:=DO
 v4:=Tp
 t5:=BP
 a5:=Gc
 z5:=DT
 v5:=MG
 t9:=A8
 a9:=Bg
 z9:=AQ
 v9:=KL
 t21:=KF
 a21:=O4
 z21:=O8
 v21:=Pg
 t46:=jf
 a46:=ja
 z46:=jb
 v46:=ji
 t116:=underlying338
 a116:=isAgg338
 z116:=sizeOf338
 t117:=underlying339
 a117:=isAgg339
 z117:=sizeOf339
 v117:=zeroValue339
 t124:=underlying342
 a124:=isAgg342
 z124:=sizeOf342
 v124:=zeroValue342 }
open Go.RowKit Go.Lib in
theorem strings_IndexAny_long(d:∀w,(zeroValue 338).run prog w=.ok (.agg (Array.replicate 256 (.bool false))) w)(s a:ByteArray)(w:Wo)(g:2<=a.size)(h:8<s.size)(i:s.size<4294967281)(f:a.size<4294967281)(c:∀(j:Nat) b,a.data.toList[j]?=some b->b.toNat<128):Calls prog 395 #[.string s,.string a] w λe w'=>e=.returned (.int .i64 (Lib.indexAny s.data.toList a.data.toList))/\w'=((w.alloc (.cells (Lib.setCells a.data.toList) 338)).alloc (.cells (Lib.setCells a.data.toList) 338)):=Any.strings_IndexAny_long dA d (by kernel_rfl) s a w g h i f c
def Tryz.GQ:Go.Shelf.Ren:=⟨λ|16=>374|n=>n,λ|24=>39|9=>9|4=>4|n=>n,λ|n=>n⟩
theorem Tryz.EH:Go.Proofs.Lays2.n16 prog GQ:={
 mixed:=by kernel_rfl
 f16:=func374.trans (Yc some kr)
 t4:=KJ
 a4:=IL
 z4:=DO
 v4:=Tp
 t9:=A8
 a9:=Bg
 z9:=AQ
 v9:=KL
 t24:=D6
 a24:=SY
 z24:=IV
 v24:=ZS
 i9:=by kernel_rfl }
open Go.RowKit Go.Lib in
theorem slices_Clone_string(b off n c:Nat)(zs:List ByteArray)(w:Wo)(g:n<=zs.length)(a:n*16<=140737488355328)(f:∀j,j<zs.length->w.cell? ⟨b,off+j,none⟩=some (.string (zs.getD j ByteArray.empty))):Calls prog 374 #[.slice (some ⟨b,off,none⟩) n c] w λe w'=>∃d,e=.returned d/\w'.ownsRow w.heap.size 9 1 d n ((zs.take n).map (Value.string))/\d≠.slice none 0 0/\Below w.heap.size w w':=Any.slices_Clone_string EH b off n c zs w g a f
open Go.RowKit Go.Lib in
theorem slices_Clone_string_nil(n c:Nat)(w:Wo):Calls prog 374 #[.slice none n c] w λe w'=>e=.returned (.slice none 0 0)/\w'=w:=Any.slices_Clone_string_nil EH n c w
open Go.RowKit Go.Lib in
theorem slices_Clone_string_zero(a:Addr)(c:Nat)(w:Wo):Calls prog 374 #[.slice (some a) 0 c] w λe w'=>∃b,e=.returned b/\w'.ownsRow w.heap.size 9 1 b 0 []/\b≠.slice none 0 0/\Below w.heap.size w w':=Any.slices_Clone_string_zero EH a c w
end Go.Proofs
namespace Go.Proofs.W9
open Gk Pc Ul
open Tryz
theorem u5(s:Lu)(c:Ui)(w:Wo):Calls prog 453 #[S s,U8 c.toNat] w (AY λv w'=>v=Ab (Go.Lib.indexByte s c)/\w=w') :=
 (strings_IndexByte ⟨s.toArray⟩ c.toNat w).mono λe w' a=>by
  obtain⟨rfl,rfl⟩:=a;refine⟨_,O,?_,O⟩
  congr 2
  simp
theorem dR(s:Lu)(w:Wo):Cz 396 [S s] w λv w'=>v=Ab (dQ s:Nat)/\w=w':=by
 refine gN 3 ?_ ?_<;>intro a
 ·exact gG 1 ⟨by rw[dQ,Y9 (show s=Zp from a)];rfl,O⟩
 exact gG 1 ⟨by rw[dQ,Y3 (show ¬ s=Zp from a)];rfl,O⟩
theorem Xp0(s:Lu)(t:s.length<=1000000)(N:La)(a:Aa B w I N):Ce B I N 302 [S s] w (S (low s)):=by
 refine gH 2 (.XJ a (.of O) A8 BV BP O ?_);intro r d o w a;refine gG 4 ?_;refine .lk [3,8,9] (σ:=Nat) (λi _m=>(10,Ab (i:Nat))::_m) (λi w=>i<=s.length/\Aa B w I (P4 r (Ao (Kv s i)++List.replicate o (Value.int .u8 0)) 5::N)) (λi=>s.length-i) 0 ⟨Y4 _,by rw[mid_zero];exact a⟩ ?_;rintro i w ⟨hi,a⟩;refine gM 1 ?_ ?_<;>intro h m
 ·have f:(Ao (Kv s i)).length=s.length:=by rw[Yj,N2]
  have g:(Ao (Kv s i)++List.replicate o (Value.int .u8 0))[i]?=some (U8 (at_ s i).toNat):=by
   rw[Ye om,Yr,V2 s i om];rfl
  refine gH 2 ?_;refine .val (.ldM (.of O) a (k:=0) O Gc (by rw[Yk];(try rw[Yd]);rw[Dm];exact g)) O ?_;refine gM 8 ?_ ?_<;>intro b n
  ·refine gH 6 (.Adh a (k:=0) O (.of O) (.of O) O DT (by rw[Y0,f,fY];omega) ?_);intro w a;refine gG 2 (⟨i+1,⟨O,O,O,O,trivial⟩,⟨om,?_⟩,om⟩);have e:=Xvz s i om;simp only[Yk,Yd,Dm]at a
   rw[ue _ _ om,show Value.int .u8 (IntKind.u8.wrap ((IntKind.u8.wrap (((at_ s (i:Int)).toNat:Int)+97))-65))=U8 (lo (at_ s (i:Int))).toNat by
    have:=qv (c:=at_ s (i:Int)) (by simpa only [Y8,dq1]using b)
    rw[this,IntKind.wrap_u8,IntKind.wrap_u8];congr 1;omega,<-uA,e]at a
   exact a
  refine gG 2 (rd (i+1) ⟨om,?_⟩);rw[<-V3 s i om (qs (λp=>by
   have:(decide (65<=((at_ s (i:Int)).toNat:Int))&&decide (((at_ s (i:Int)).toNat:Int)<=90))=true:=by simp only[Y8,dq1];exact p
   rw[this]at b;cases b))]
  exact a
 refine gH 1 ?_;refine .val (.P5 (l:=low s) (cap:=d) (.of (by rw[fu];rfl)) a (k:=0) O BV BP A8 (λj q=>by
  rw[fu]at q;rw[Yk,Ye (by rw[Yj,N2];omega),Yr,mid_end s i om,Y2 (by rw[fu];omega)];rfl)) O ?_
 exact gG 1 ⟨O,a.s⟩
theorem Vt(s:Lu)(w:Wo):Cz 304 [S s] w λv w'=>v=.bool (fA s)/\w=w':=by
 obtain⟨w0,f⟩:∃w0,w=w0:=⟨_,O⟩
 rw[show(λ(v:Va) (w':Wo)=>v=.bool (fA s)/\w=w')=(λv w'=>v=.bool (fA s)/\w0=w')by rw[f]];refine gM 8 ?_ ?_<;>intro d n
 ·refine gG 1 (⟨?_,f.symm⟩)
  congr 1
  rw[fA];rcases uf.1 d with h|h
  ·rw[show s=[]by simpa using h];rfl
  ·simp only[dq1]at h
   rw[show decide (64<s.length)=true from decide_eq_true om];simp
 refine gG 3 (.lk [0,13] (σ:=Nat) (λi _m=>(14,Ab (i:Nat))::_m) (λi w=>i<=s.length/\(∀j,j<i->j<s.length->Jz (at_ s (j:Int))=true)/\w=w0) (λi=>s.length-i) 0 ⟨Y4 _,λ_ h=>Yz h om,f⟩ ?_);rintro i w ⟨hi,g,m⟩;refine gN 1 ?_ ?_<;>intro o
 ·refine gC 7 (lV _ _) ?_;rintro _ _ ⟨rfl,rfl⟩;refine gM 9 ?_ ?_<;>intro c q
  ·refine gG 1 (⟨?_,m.symm⟩);rw[Xop]at c;rw[fA,oU (p:=Jz) (i:=i) om (su c),T7]
  refine gG 2 (rd (i+1) ⟨om,λj t l=>?_,m⟩);rcases Yt j i with k|k
  ·exact g j k l
  ·have e:j=i:=om
   subst e;rw[Xop]at c;simpa using c
 refine gG 1 (⟨?_,m.symm⟩);rw[fA,mz g om,pP];obtain⟨k,r⟩:=(EB).1 d;rw[show decide (64<s.length)=false from decide_eq_false (by simp only[dq2]at r;omega),show s.isEmpty=false by cases s with|nil=>simp at k|cons a b=>rfl];rfl
theorem L2(s:Lu)(u:s.length<=1000000)(w:Wo):Cz 397 [S s] w λv w'=>v=.bool (s.all fC)/\w=w':=by
 obtain⟨w0,l⟩:∃w0,w=w0:=⟨_,O⟩
 rw[show(λ(v:Va) (w':Wo)=>v=.bool (s.all fC)/\w=w')=(λv w'=>v=.bool (s.all fC)/\w0=w')by rw[l]];refine gG 4 (.lk [0,6] (σ:=Nat) (λi _m=>(7,Ab (i:Nat))::_m) (λi w=>i<=s.length/\(∀j,j<i->j<s.length->fC (at_ s (j:Int))=true)/\w=w0) (λi=>s.length-i) 0 ⟨Y4 _,λ_ h=>Yz h om,l⟩ ?_);rintro i w ⟨hi,k,f⟩;refine gN 1 ?_ ?_<;>intro q
 ·refine gH 14 ?_;refine .Au (T:=λw=>w=w0) O O O FL O (λg=>(A3 O (X6 (.gd g O) X4))) O (λg=>(u5 re (at_ s (i:Int)) _).mono (λe x r=>by obtain⟨v,a,b,c⟩:=r;exact⟨v,a,b,by rw[<-c];exact f⟩)) f ?_;rintro w f;refine gM 2 ?_ ?_<;>intro d o
  ·refine gG 1 (⟨?_,f.symm⟩);rw[Xja]at d;rw[oU (p:=fC) (i:=i) om (su d)]
  refine gG 2 (rd (i+1) ⟨om,λj t m=>?_,f⟩);rcases Yt j i with n|n
  ·exact k j n m
  ·have e:j=i:=om
   subst e;rw[Xja]at d;simpa using d
 refine gG 1 (⟨?_,f.symm⟩);rw[mz k om]
theorem RV(s:Lu)(i:Nat)(e:i<=4)(h:∀j,j<i->j<s.length->Km (at_ s (j:Int))=true):val (s.take i)<=9999:=by
 have step:∀k,k<=i->val (s.take k)+1<=10^k:=by
  intro k
  induction k with
  | zero=>intro _;simp[val]
  | succ k f =>
   intro m
   have:=f om
   rcases Yt k s.length with a|a
   ·rw[oR s k a,T9];have b:=h k om a;simp only[Km,Y8,dq1,nw]at b
    have c:(48:Ui).toNat=48:=rfl;have d:(57:Ui).toNat=57:=rfl;rw[c,d]at b;omega
   ·rw[show s.take (k+1)=s.take k by rw[Yo om,Yo om],T9];omega
 have g:=step i (Ya _);have l:10^i<=10^4:=aV de e;omega
theorem WA(s o:Lu)(X:s.length<=1000000)(w:Wo):Cz 305 [S s,S o] w λv w'=>v=(if Gf s then Value.tuple #[Ab (PG s o:Nat),.bool true]else .tuple #[Ab 0,.bool false])/\w=w':=by
 obtain⟨w0,B⟩:∃w0,w=w0:=⟨_,O⟩
 rw[show(λ(v:Va) (w':Wo)=>v=(if Gf s then Value.tuple #[Ab (PG s o:Nat),.bool true]else .tuple #[Ab 0,.bool false])/\w=w')=(λv w'=>v=(if Gf s then Value.tuple #[Ab (PG s o:Nat),.bool true]else .tuple #[Ab 0,.bool false])/\w0=w')by rw[B]];refine gG 6 (.lk [0,1,10] (σ:=Nat) (λi _m=>(6,Ab (val (s.take i):Nat))::(11,Ab (i:Nat))::_m) (λi w=>i<=s.length/\i<=5/\(∀j,j<i->j<s.length->Km (at_ s (j:Int))=true)/\(0<i->at_ s 0≠48)/\w=w0) (λi=>s.length-i) 0 ⟨Y4 _,de,λ_ h=>Yz h om,λh=>Yz h om,B⟩ ?_);rintro i w ⟨hi,Q,n,C,D⟩;refine gN 1 ?_ ?_<;>intro A
 ·refine gH 14 ?_;refine gM 10 ?_ ?_<;>intro r H
  ·refine gG 2 ?_;have l:Gf s=false:=by
    have h:=r;rcases uf.1 h with h|h
    ·rcases uf.1 h with h|h
     ·rw[Xur]at h;unfold Gf;rw[oU (p:=Km) (i:=i) om (su h)];rfl
     ·simp only[Y8,beq_iff_eq]at h
      have e0:i=0:=om
      subst e0;unfold Gf
      have:s.headD 0=48:=by
       have z:(at_ s ((0:Nat):Int)).toNat=48:=om
       have M:at_ s ((0:Nat):Int)=48:=CS.1 z;cases s with
       | nil=>simp at A
       | cons a b=>exact M
      rw[this]
      simp
    ·simp only[dq1]at h
     have Eo:=n 0 om om;unfold Gf;rw[decide_eq_false (show ¬ val s<=65535 from λV=>by have:=eS s om Eo (C om);omega)]
     simp
   refine⟨?_,D.symm⟩;rw[Y3 (by rw[pJ];exact l)]
  have x:¬ (((decide (((at_ s (i:Int)).toNat:Int)<48)||decide (57<((at_ s (i:Int)).toNat:Int)))||((i:Int)==0)&&(((at_ s (i:Int)).toNat:Int)==48))||decide (4<(i:Int)))=true:=by rw[r];decide
  have u:Km (at_ s (i:Int))=true:=by
   cases P:Km (at_ s (i:Int))with
   | true=>rfl
   | false=>exact Yz (by rw[Xur,P];rfl) x
  have T:48<=(at_ s (i:Int)).toNat/\(at_ s (i:Int)).toNat<=57:=by
   have:=u
   simp only[Km,Y8,dq1,nw]at this
   have K:(48:Ui).toNat=48:=rfl;have L:(57:Ui).toNat=57:=rfl;rw[K,L]at this;exact this
  have F:i<=4:=by
   rcases Yt 4 i with h|h
   ·exact Yz (by rw[decide_eq_true (show 4<(i:Int)by omega),Bool.or_true]) x
   ·exact h
  have E:i=0->(at_ s (i:Int)).toNat≠48:=λe h=>Yz (by
   rw[show((i:Int)==0)=true by simp[e],show(((at_ s (i:Int)).toNat:Int)==48)=true by simp[h]];simp) x
  have U:=RV s i F n;refine gH 3 (.val (.qY (.of O) (.of O) (by rw[IntKind.wrap_u8];omega)) O (gG 5 (⟨i+1,⟨?_,O,O,O,O,trivial⟩,⟨om,om,λj W G=>?_,λ_=>?_,D⟩,om⟩)))
  ·rw[oR s i om];show some _=some _
   congr 3
   omega
  ·rcases Yt j i with q|q
   ·exact n j q G
   ·have e:j=i:=om
    rw[e];exact u
  ·rcases Ix i with e|e
   ·subst e;intro h;exact E O (by show(at_ s ((0:Nat):Int)).toNat=48;rw[show((0:Nat):Int)=0 from O,h];rfl)
   ·exact C e
 refine gM 6 ?_ ?_<;>intro k I
 ·refine gG 2 ?_;have c:s.length=i:=om
  rw[<-c,Fy]at k;have l:Gf s=false:=by
   unfold Gf;rcases uf.1 k with h|h
   ·simp only[dq1]at h
    rw[decide_eq_false (show ¬ 1<=val s by omega)];simp
   ·simp only[dq1]at h
    rw[decide_eq_false (show ¬ val s<=65535 by omega)];simp
  refine⟨?_,D.symm⟩;rw[Y3 (by rw[pJ];exact l)]
 refine gC 2 (dR o _) ?_;rintro _ w ⟨rfl,y⟩;rw[D]at y;refine gM 1 ?_ ?_<;>intro t J
 ·refine gG 4 ?_;have c:s.length=i:=om
  have d:=k;rw[<-c,Fy]at d;have g:Gf s=true:=by
   unfold Gf;obtain⟨q,z⟩:=EB.1 d;simp only[dq2]at q z
   have m:s≠[]:=λe=>by rw[e]at q;simp[val]at q
   have R:0<s.length:=K6.2 m;rw[mz n om,decide_eq_true (show 1<=val s by omega),decide_eq_true (show val s<=65535 by omega)]
   have:=C om
   have e:s.headD 0=at_ s 0:=by cases s with|nil=>exact Yz rfl m|cons a b=>rfl
   rw[e];simp[this]
  refine⟨?_,y⟩;rw[Y9 g,PG];have f:=t;rw[<-c,Fy]at f;rw[Y9 (by simp only[beq_iff_eq]at f;omega)];rfl
 refine gG 3 ?_;have c:s.length=i:=om
 have d:=k;rw[<-c,Fy]at d;have g:Gf s=true:=by
  unfold Gf;obtain⟨q,z⟩:=EB.1 d;simp only[dq2]at q z
  have m:s≠[]:=λe=>by rw[e]at q;simp[val]at q
  have R:0<s.length:=K6.2 m;rw[mz n om,decide_eq_true (show 1<=val s by omega),decide_eq_true (show val s<=65535 by omega)]
  have:=C om
  have e:s.headD 0=at_ s 0:=by cases s with|nil=>exact Yz rfl m|cons a b=>rfl
  rw[e];simp[this]
 refine⟨?_,y⟩;rw[Y9 g,PG];have f:=t;rw[<-c,Fy]at f;rw[Y3 (by simp only[beq_eq_false_iff_ne]at f;omega),<-c,Fy]
theorem Xxu(n:Int)(w:Wo):Cz 452 [Ab n] w λv w'=>v=.bool (decide (8<n))/\w=w':=by
 exact gG 4 ⟨O,O⟩
theorem Xjt(r:Int)(w:Wo):Calls prog 467 #[.int .i32 r] w (AY λv w'=>v=.bool (Go.Lib.validRune r)/\w=w') :=
 (utf8_ValidRune r w).mono λe w' a=>by
  obtain⟨rfl,rfl⟩:=a;exact⟨_,O,O,O⟩
theorem Xmx(cs:Lu)(d:eW cs)(L:cs.length<=1000)(r:Int)(D:128<=r)(H:r<=1114111)(N:La)(a:Aa B w I N):Ce B I N 416 [S cs,.int .i32 r] w (Ab (-1)):=by
 refine gU 8 (λm o=>?_);refine gN 3 ?_ ?_<;>intro p
 ·refine gH 1 (.range a (.of O) A8 O ?_);intro f w a;refine gG 0 (.lk [175] (σ:=Nat) (λi _m=>_m) (λi w=>i<=cs.length/\Aa B w I (own f (.stringIter ⟨cs.toArray⟩ i)::N)) (λi=>cs.length-i) 0 ⟨Y4 _,a⟩ ?_);rintro i w ⟨hi,a⟩;refine gG 0 (.next (i:=i) a (k:=0) O (.of O) O (λg=>?_) (λg=>?_))
  ·refine gG 1 (.Aw (rfl) ?_);exact gG 1 ⟨O,a.s⟩
  ·rw[wx cs i g (d i _ (D4 g))];have E:=d i _ (D4 g);intro w a;refine gG 1 (.Ct (rfl) (gU 6 (λn q=>?_)));exact gG 0 (A_ (_) O ⟨om,a⟩)
 refine gC 1 (Xjt r _) ?_;rintro _ _ ⟨rfl,rfl⟩;refine gM 2 ?_ ?_<;>intro e t
 ·exact gG 1 ⟨O,a⟩
 have v:Go.Utf8.valid r=true:=YK r (su e);obtain⟨F,G,u⟩:=Qu r v D;refine gH 1 ?_;refine .val (.ey (.of O) (by rw[KF];rfl) A8) O ?_;refine gG 8 (.lk [0,7,8,9] (σ:=Unit) (λ_ _m=>_m) (λ_ w=>Aa B w I N) (λ_=>0) () a ?_);rintro _ w a;refine gN 4 ?_ ?_<;>intro z
 ·have J:(at_ cs ((((It r).length:Nat):Int)-1)).toNat<128:=d ((((It r).length:Nat):Int)-1).toNat _ (by rw[at_,Yf,Y2 om];rfl);refine gG 0 (gQ ?_);intro w a;refine gT 7 (λx A=>?_);refine gG 0 (.qt a (.val (λw a=>(.mo O)) O (.val (λw a=>(.mo O)) O (.val (λw a=>(.add (.of O) (.of O) ⟨om,om⟩)) O (.val (λw a=>(.Ee (.of O) (.of O) om om A8)) O (.val (λw a=>(.mo O)) O (.val (λw a=>(.mo O)) O (.val (λw a=>(.index (.of O) (.of O) om om A8)) O (.call FL O (A3 O (A3 O X4)) O (λw a=>Pu (u5 _ (at_ (It r) ((((It r).length:Nat):Int)-1)) w) a) (.val (λw a=>(.ao O)) O (.nil ?_)))))))))));intro w a;have K:=Xor (l:=cs.drop ((((It r).length:Nat):Int)-1+1).toNat) (c:=at_ (It r) ((((It r).length:Nat):Int)-1)) u (λj b h=>by rw[Hk]at h;exact d _ _ h);refine gT 2 (λy C=>?_);exact gG 1 ⟨O,a⟩
 exact gG 1 ⟨O,a⟩
theorem Xjk(cs:Lu)(a:eW cs)(d:cs.length<=1000)(r:Nat)(f:r<=1114111)(N:La)(b:Aa B w I N):Calls prog 416 #[S cs,.int .i32 r] w (AY λv w'=>v=Ab (if r<128 then Go.Lib.indexByte cs (UInt8.ofNat r)else -1)/\Aa B w' I N):=by
 rcases Yt r 128 with h|h
 ·refine(strings_IndexRune_ascii ⟨cs.toArray⟩ r w om om).mono λe w' c=>?_
  obtain⟨rfl,rfl⟩:=c;refine⟨_,O,?_,b⟩;rw[Y9 h]
  simp
 ·rw[Y3 om];exact Xmx cs a d r om om N b
theorem Xmw(s cs:Lu)(d:eW cs)(u:cs.length<=1000)(x:2<=cs.length)(y:s.length<=8)(n:(cs==[])=false)(N:La)(a:Aa B w I N):Ce B I N 395 [S s,S cs] w (Ab (Go.Lib.indexAny s cs)):=by
 refine gG 3 ?_;refine .Aw (by show some (Value.bool (cs==[]))=_;rw[n]) ?_;refine gU 3 (λo q=>?_);refine gC 2 (Xxu _ _) ?_;rintro _ _ ⟨rfl,rfl⟩;refine gU 0 (λp r=>?_);refine gH 1 (.range a (.of O) A8 O ?_);intro g w a;refine gG 0 (.lk [1,45] (σ:=Nat) (λi _m=>_m) (λi w=>i<=s.length/\Go.Lib.NoAny s cs i/\Aa B w I (own g (.stringIter ⟨s.toArray⟩ i)::N)) (λi=>s.length-i) 0 ⟨Y4 _,Go.Lib.NoAny.zero _ _,a⟩ ?_);rintro i w ⟨hi,e,a⟩;refine gG 0 (.next (i:=i) a (k:=0) O (.of O) O (λf=>?_) (λf=>?_))
 ·refine gG 1 (.Aw (rfl) ?_);exact gG 1 ⟨by rw[Go.Lib.indexAny_none (by rw[show s.length=i by omega];exact e)],a.s⟩
 ·intro w a;try dsimp only[List.set]at a
  refine gG 1 (.Ct (rfl) ?_);have j:(Go.Utf8.decode ⟨s.toArray⟩ i).1<=1114111:=by
   rcases Yt (at_ s (i:Int)).toNat 128 with h|h
   ·rw[wx s i f h];dsimp only;omega
   ·exact(Xnw s i f h).2.1
  obtain⟨c,b⟩:=Uk d f e;unfold rv at c b;refine gE 6 (Xjk cs d u _ j) ?_;intro w a;refine gN 1 ?_ ?_<;>intro t
  ·refine gG 2 (⟨?_,a.s⟩);rw[c om]
   done
  refine gG 0 ?_;obtain⟨l,m,v⟩:=b om;exact A_ _ O ⟨m,l,a⟩
theorem Xmv(s cs:Lu)(j:s.length<=1000000)(c:eW cs)(i:cs.length<=1000)(d:2<=cs.length)(N:La)(f:Aa B w I N):Calls prog 395 #[S s,S cs] w (AY λv w'=>v=Ab (Go.Lib.indexAny s cs)/\Aa B w' I N):=by
 rcases Yt 8 s.length with h|h
 ·refine(strings_IndexAny_long (zero_of_info (n:=256) kr).1 ⟨s.toArray⟩ ⟨cs.toArray⟩ w d h (by show s.length<_;omega) (by show cs.length<_;omega) c).mono λe w' g=>?_
  obtain⟨rfl,rfl⟩:=g;exact⟨_,O,O,(((f.alloc _).alloc _).drop (k:=0) O).drop (k:=0) O⟩
 ·exact Xmw s cs c i d h (by cases cs with|nil=>simp at d|cons a b=>rfl) N f
theorem Ns(s cs:Lu)(l:s.length<=1000000)(d:eW cs)(j:cs.length<=1000)(g:2<=cs.length)(N:La)(c:Aa B w I N):Ce B I N 303 [S s,S cs] w (.tuple #[S (AP cs s),S (Xn cs s)]):=by
 refine gP 4 [] (Xmv s cs l d j g N) ?_;rintro _ w ⟨rfl,c⟩;have i:=Go.Lib.indexAny_ge cs s;refine gN 3 ?_ ?_<;>intro e
 ·refine gG 0 ?_;obtain⟨k,f⟩:∃k:Nat,Go.Lib.indexAny s cs=k:=⟨(Go.Lib.indexAny s cs).toNat,om⟩
  obtain⟨a,b,h⟩:=xK f;rw[f];refine gQ ?_;intro w c;exact gG 8 ⟨by rw[a,b];(try rw[Yd]),c⟩
 refine gG 3 ?_;obtain⟨a,b⟩:=w8 (s:=s) (Ar:=cs) om;exact⟨by rw[a,b],c⟩
theorem Rb(s:Lu)(g:s.length<=1000000)(d:Bw I)(N:La)(c:Aa B w I N):Calls prog 398 #[S s] w (AY λv w'=>∃b a,v=.tuple #[S b,Ab a]/\(match D7 s with|none=>b=[]/\a=11|some t=>b=t/\a=0)/\Aa B w' I N) :=
 (Xt1 s g d N c).mono λe w' f=>by
  obtain⟨v,rfl,rfl,h⟩:=f;cases D7 s with
  | none=>exact⟨_,O,_,_,O,⟨O,O⟩,h⟩
  | some t=>exact⟨_,O,_,_,O,⟨O,O⟩,h⟩
theorem Xz4(s:Lu)(f:s.length<=1000000)(g:Bw I)(N:La)(d:Aa B w I N):Ce B I N 306 [S s] w (match HJ s with|none=>.tuple #[S [],Ab 15]|some t=>.tuple #[S t,Ab 0]):=by
 refine gC 3 (L2 s f _) ?_;rintro _ _ ⟨rfl,rfl⟩;refine gN 1 ?_ ?_<;>intro b
 ·exact gG 2 ⟨by rw[HJ,Y3 (nB b)],d⟩
 refine gP 1 [] (Rb s f g N) ?_;rintro _ w ⟨i,h,rfl,a,d⟩;refine gN 7 ?_ ?_<;>intro c
 ·refine gG 2 (⟨?_,d⟩);rw[HJ,Y9 b];cases e:D7 s with
  | none=>rfl
  | some t=>rw[e]at a;exact Yz a.2 c
 refine gG 3 (⟨?_,d⟩);rw[HJ,Y9 b];cases e:D7 s with
 | none=>rw[e]at a;have:=a.2;omega
 | some t=>rw[e]at a;obtain⟨rfl,rfl⟩:=a;rfl
end Go.Proofs.W9
namespace DN
open Go Gk
theorem xd{α:Type}(Aq:α->Lv)(s:Nat)(a:∀x,(Aq x).length=s):∀(l:List α) (r:Lv) (i j:Nat) (x:α),l[i]?=some x->j<s->(l.flatMap Aq++r)[i*s+j]?=(Aq x)[j]?
 | [],_,_,_,_,h,_=>by simp at h
 | y::l,r,0,j,x,h,b=>by
  simp at h
  subst h;simp only[aW,PT,Yk,Yg]
  rw[Ye (by rw[a];exact b)]
 | y::l,r,i+1,j,x,h,b=>by
  simp only[aW,Yg]
  rw[Yw (by rw[a,Sn];omega),a];have e:(i+1)*s+j-s=i*s+j:=by rw[Sn];omega
  rw[e];exact xd Aq s a l r i j x (su h) b
theorem Xv4{α:Type}(Aq:α->Lv)(s:Nat)(a:∀x,(Aq x).length=s)(f:α->α)(j:Nat)(v:Va)(b:∀x,Aq (f x)=(Aq x).set j v)(c:j<s):∀(l:List α) (r:Lv) (i:Nat),i<l.length->(l.flatMap Aq++r).set (i*s+j) v=(l.modify i f).flatMap Aq++r
 | [],_,_,h=>by simp at h
 | y::l,r,0,_=>by
  simp only[aW,PT,Yk,Yg]
  rw[ue _ _ (by rw[a];exact c)];simp[b]
 | y::l,r,i+1,h=>by
  simp only[aW,Yg]
  rw[nu _ _ (by rw[a,Sn];omega),a];have e:(i+1)*s+j-s=i*s+j:=by rw[Sn];omega
  rw[e,Xv4 Aq s a f j v b c l r i (su h)]
  simp
theorem oK{α:Type}(Aq:α->Lv)(s:Nat)(a:∀x,(Aq x).length=s):∀(l:List α),(l.flatMap Aq).length=l.length*s
 | []=>by simp
 | y::l=>by simp only[aW,Y0,a,oK Aq s a l,Y5,Sn];omega
abbrev Ez:=Int×Int×Va
abbrev Pl:=Int×Int×List Int
abbrev Aq(x:Ez):Lv:=[.int .u8 x.1,.int .u8 x.2.1,x.2.2]
theorem iM(x:Ez):(Aq x).length=3:=rfl
def Kj(P:List Ez)(i:Nat)(v:Va):List Ez:=P.modify i λx=>(x.1,x.2.1,v)
def Dy(Q:List Pl)(i:Nat)(xs:List Int):List Pl:=Q.modify i λx=>(x.1,x.2.1,xs)
theorem se(P:List Ez)(i:Nat)(v:Va):(Kj P i v).length=P.length:=by simp[Kj]
theorem ly{P:List Ez}{x:Ez}(h:P[i]?=some x)(r:Lv):(P.flatMap Aq++r)[0+i*3+2]?=some x.2.2:=by
 rw[Yk,xd Aq 3 iM P r i 2 x h om];rfl
theorem XX{P:List Ez}(h:i<P.length)(r:Lv)(v:Va):(P.flatMap Aq++r).set (0+i*3+2) v=(Kj P i v).flatMap Aq++r:=by
 rw[Yk];exact Xv4 Aq 3 iM (λx=>(x.1,x.2.1,v)) 2 v (λ_=>rfl) om P r i h
def Br(I:Im)(v:Va)(xs:List Int):Prop:=(xs=[]->v=.slice none 0 0)/\∃a c,v=.slice a xs.length c/\xs.length<=c/\RS I a 1 xs.length (xs.map Ab)
theorem Br.mono{xs:List Int}(h:Br I v xs)(f:Le I J):Br J v xs:=let⟨b,a,c,e,d,g⟩:=h;⟨b,a,c,e,d,g.mono f⟩
theorem Br.nil(I:Im):Br I (.slice none 0 0) []:=⟨λ_=>rfl,none,0,O,Ya _,RS.nil I 1⟩
def BZ(I:Im)(P:List Ez)(Q:List Pl):Prop:=P.length=Q.length/\∀(i:Nat) (p:Ez) (q:Pl),P[i]?=some p->Q[i]?=some q->p.1=q.1/\p.2.1=q.2.1/\Br I p.2.2 q.2.2
theorem BZ.mono{P:List Ez}{Q:List Pl}(h:BZ I P Q)(d:Le I J):BZ J P Q:=⟨h.1,λi p q e f=>let⟨a,b,c⟩:=h.2 i p q e f;⟨a,b,c.mono d⟩⟩
theorem BZ.nil(I:Im):BZ I [] []:=⟨O,λ_ _ _ h=>by simp at h⟩
theorem BZ.snoc{P:List Ez}{Q:List Pl}(h:BZ I P Q)(k c:Int)(v:Va)(xs:List Int)(d:Br I v xs):BZ I (P++[(k,c,v)]) (Q++[(k,c,xs)]):=by
 refine⟨by simp[h.1],λi p q a b=>?_⟩;rcases Nat.lt_trichotomy i P.length with hi|hi|hi
 ·rw[Ye hi]at a;rw[Ye (by rw[<-h.1];exact hi)]at b;exact h.2 i p q a b
 ·subst hi;rw[Yw (Ya _)]at a;rw[h.1,Yw (Ya _)]at b;simp at a b
  subst a;subst b;exact⟨O,O,d⟩
 ·rw[Zy (by simp;omega)]at a;cases a
theorem BZ.set{P:List Ez}{Q:List Pl}(h:BZ I P Q)(i:Nat)(v:Va)(xs:List Int)(k:Br I v xs):BZ I (Kj P i v) (Dy Q i xs):=by
 refine⟨by simp[Kj,Dy,h.1],λj p q c d=>?_⟩;unfold Kj at c;unfold Dy at d;rw[PM]at c d
 by_cases e:i=j
 ·subst e;simp only[if_true]at c d
  obtain⟨l,f,rfl⟩:=K5.1 c;obtain⟨m,g,rfl⟩:=K5.1 d;obtain⟨a,b,_⟩:=h.2 i l m f g;exact⟨a,b,k⟩
 ·simp only[e,if_false]at c d
  exact h.2 j p q (su c) (su d)
def Er(I:Im)(o:Nat)(P:List Ez)(Q:List Pl):Prop:=P.length=Q.length/\∀(i:Nat) (p:Ez) (q:Pl),P[i]?=some p->Q[i]?=some q->p.1=q.1/\p.2.1=q.2.1/\(i≠o->Br I p.2.2 q.2.2)
theorem Er.mono{P:List Ez}{Q:List Pl}(h:Er I o P Q)(d:Le I J):Er J o P Q:=⟨h.1,λi p q e f=>let⟨a,b,c⟩:=h.2 i p q e f;⟨a,b,λhi=>(c hi).mono d⟩⟩
theorem BZ.x{P:List Ez}{Q:List Pl}(h:BZ I P Q)(o:Nat):Er I o P Q:=⟨h.1,λi p q d e=>let⟨a,b,c⟩:=h.2 i p q d e;⟨a,b,λ_=>c⟩⟩
theorem Er.Adc{P:List Ez}{Q:List Pl}(h:Er I o P Q)(v:Va)(xs:List Int):Er I o (Kj P o v) (Dy Q o xs):=by
 refine⟨by simp[Kj,Dy,h.1],λj p q c d=>?_⟩;unfold Kj at c;unfold Dy at d;rw[PM]at c d
 by_cases e:o=j
 ·subst e;simp only[if_true]at c d
  obtain⟨i,f,rfl⟩:=K5.1 c;obtain⟨k,g,rfl⟩:=K5.1 d;obtain⟨a,b,_⟩:=h.2 o i k f g;exact⟨a,b,λhi=>Yz O hi⟩
 ·simp only[e,if_false]at c d
  exact h.2 j p q (su c) (su d)
theorem Er.Adb{P:List Ez}{Q:List Pl}(h:Er I o P Q)(b:Nat)(v:Va)(xs:List Int)(i:Br I v xs):Er I o (Kj P b v) (Dy Q b xs):=by
 refine⟨by simp[Kj,Dy,h.1],λj p q c d=>?_⟩;unfold Kj at c;unfold Dy at d;rw[PM]at c d
 by_cases e:b=j
 ·subst e;simp only[if_true]at c d
  obtain⟨k,f,rfl⟩:=K5.1 c;obtain⟨l,g,rfl⟩:=K5.1 d;obtain⟨a,b,_⟩:=h.2 b k l f g;exact⟨a,b,λ_=>i⟩
 ·simp only[e,if_false]at c d
  exact h.2 j p q (su c) (su d)
theorem Er.back{P:List Ez}{Q:List Pl}(h:Er I o P Q)(g:∀p q,P[o]?=some p->Q[o]?=some q->Br I p.2.2 q.2.2):BZ I P Q :=
 ⟨h.1,λi p q d f=>by
  obtain⟨a,b,c⟩:=h.2 i p q d f;refine⟨a,b,?_⟩
  by_cases e:i=o
  ·subst e;exact g p q d f
  ·exact c e⟩
def Ig(n:Nat)(o:Nat):List Pl->List Int->List Nat->List Pl
 | Q,_,[]=>Q
 | Q,done,b::r=>Ig n o (Dy (Dy Q o (done++[(b:Int)+1])) b [(n:Int)]) (done++[(b:Int)+1]) r
theorem oe(n o:Nat):∀(r:List Nat) (Q:List Pl) (done:List Int),(Ig n o Q done r).length=Q.length
 | [],_,_=>rfl
 | b::r,Q,done=>by rw[Ig,oe n o r];simp[Dy]
theorem Xym{E:Nat}{xs:List Int}(f:Aa B w I N)(d:N[k]?=some (An E 1 v xs.length (xs.map Ab)))(p:xs=[]->v=.slice none 0 0):∃J,Le I J/\Br J v xs/\Aa B w J (N.eraseIdx k):=by
 rcases Ix xs.length with e|e
 ·have hx:xs=[]:=Yi e;subst hx;obtain⟨a,c,rfl,x,_⟩:=f.AG d;exact⟨I,Le.refl I,⟨p,a,c,O,x,by simp,λh=>Yz h sz⟩,f.drop d⟩
 ·obtain⟨b,cap,r,rfl,q,y,_,_,i⟩:=f.AF d e;have m:k<N.length:=(Y1.1 d).1;obtain⟨J,s,t,g⟩:=i.freeze (k:=k) (b:=b) (o:=Xh (xs.map Ab++r) E) (by simp[m,Ac]);refine⟨J,s,⟨p,_,_,O,q,by simp,λ_=>⟨_,O,O,_,_,_,t,?_⟩⟩,by simpa[nz]using g⟩;intro j u n;have l:j<(xs.map Ab).length:=(Y1.1 n).1;simp only[Yk,pG]
  rw[Ye l];exact n
abbrev Gq:=Nat×List Nat
def AJ:List UInt8->Int->List Pl->List Gq->List Int->Except (Int×Int) (List Pl)
 | [],_,Q,_,Ar=>if 0<Ar.length then .error (23,Ar.getD (Ar.length-1) 0)else .ok (Q++[(7,0,[])])
 | c::r,i,Q,a,Ar =>
  if c.toNat=63 then AJ r (i+1) (Q++[(1,0,[])]) a Ar
  else if c.toNat=42 then(match r with
   | d::r'=>if d.toNat=42 then AJ r' (i+2) (Q++[(2,0,[])]) a Ar else AJ (d::r') (i+1) (Q++[(3,0,[])]) a Ar
   | []=>AJ [] (i+1) (Q++[(3,0,[])]) a Ar)
  else if c.toNat=40 then(if a.length=4 then .error (24,i)else AJ r (i+1) (Q++[(4,0,[])]) ((Q.length,[])::a) (Ar++[i]))
  else if c.toNat=124 then(match a with
   | []=>.error (10,i)
   | (o,b)::rest=>AJ r (i+1) (Q++[(5,0,[])]) ((o,b++[Q.length])::rest) Ar)
  else if c.toNat=41 then(match a with
   | []=>.error (10,i)
   | (o,b)::rest=>AJ r (i+1) (Ig Q.length o Q [] b++[(6,0,[])]) rest (Ar.take rest.length))
  else if c.toNat=92 then(match r with|[]=>.error (10,i)|d::r'=>AJ r' (i+2) (Q++[(0,(d.toNat:Int),[])]) a Ar)
  else AJ r (i+1) (Q++[(0,(c.toNat:Int),[])]) a Ar
theorem ow(i:Int)(Q:List Pl)(a:List Gq)(Ar:List Int):AJ [] i Q a Ar=if 0<Ar.length then .error (23,Ar.getD (Ar.length-1) 0)else .ok (Q++[(7,0,[])]):=by rw[AJ.eq_def]
theorem Xp(c:UInt8)(r:List UInt8)(i:Int)(Q:List Pl)(a:List Gq)(Ar:List Int):AJ (c::r) i Q a Ar =
  if c.toNat=63 then AJ r (i+1) (Q++[(1,0,[])]) a Ar
  else if c.toNat=42 then(match r with
   | d::r'=>if d.toNat=42 then AJ r' (i+2) (Q++[(2,0,[])]) a Ar else AJ (d::r') (i+1) (Q++[(3,0,[])]) a Ar
   | []=>AJ [] (i+1) (Q++[(3,0,[])]) a Ar)
  else if c.toNat=40 then(if a.length=4 then .error (24,i)else AJ r (i+1) (Q++[(4,0,[])]) ((Q.length,[])::a) (Ar++[i]))
  else if c.toNat=124 then(match a with
   | []=>.error (10,i)
   | (o,b)::rest=>AJ r (i+1) (Q++[(5,0,[])]) ((o,b++[Q.length])::rest) Ar)
  else if c.toNat=41 then(match a with
   | []=>.error (10,i)
   | (o,b)::rest=>AJ r (i+1) (Ig Q.length o Q [] b++[(6,0,[])]) rest (Ar.take rest.length))
  else if c.toNat=92 then(match r with|[]=>.error (10,i)|d::r'=>AJ r' (i+2) (Q++[(0,(d.toNat:Int),[])]) a Ar)
  else AJ r (i+1) (Q++[(0,(c.toNat:Int),[])]) a Ar:=by rw[AJ.eq_def]
def cmp(l:Lu):Except (Int×Int) (List Pl):=if 200<l.length then .error (2,0)else AJ l 0 [] [] []
def Frames(Q:List Pl):Nat->List Gq->Prop
 | _,[]=>True
 | lim,(o,a)::r=>o<lim/\Q[o]?=some (4,0,[])/\a.length<=Q.length/\(∀b∈a,o<b/\b<Q.length)/\Frames Q o r
theorem Frames.grow{Q d:List Pl}:∀{c:List Gq} {lim a:Nat},Frames Q lim c->lim<=a->Q.length<=d.length->(∀i,i<lim->Q[i]?=some (4,0,[])->d[i]?=some (4,0,[]))->Frames d a c
 | [],_,_,_,_,_,_=>trivial
 | (o,m)::r,lim,a,⟨h,j,n,e,k⟩,p,l,g =>
  ⟨om,g o h j,om,λb f=>⟨(e b f).1,by have:=(e b f).2;omega⟩,k.grow (Ya _) l λi hi=>g i om⟩
theorem Frames.app{Q:List Pl}{stk:List Gq}(h:Frames Q Q.length stk)(x:Pl):Frames (Q++[x]) (Q++[x]).length stk :=
 h.grow sz sz λi hi a=>by rw[Ye hi];exact a
theorem Xf2(n o:Nat):∀(c:List Nat) (Q:List Pl) (done:List Int) (i:Nat),i≠o->(∀b∈c,b≠i)->(Ig n o Q done c)[i]?=Q[i]?
 | [],_,_,_,_,_=>rfl
 | b::r,Q,done,i,h,d=>by
  rw[Ig,Xf2 n o r _ _ i h λx hx=>d x (Si _ hx)];have a:b≠i:=d b sz;simp[Dy,PM,a,Ne.symm h]
theorem Frames.close{Q:List Pl}{a:List Nat}{rest:List Gq}(h:Frames Q Q.length ((o,a)::rest))(x:Pl):Frames (Ig Q.length o Q [] a++[x]) (Ig Q.length o Q [] a++[x]).length rest:=by
 obtain⟨g,j,k,c,d⟩:=h;refine d.grow (by simp[oe];omega) (by simp[oe]) λi hi f=>?_
 rw[Ye (by rw[oe];omega),Xf2 _ _ _ _ _ _ om λb e=>by have:=(c b e).1;omega];exact f
def FC(f:Gq):List Int:=(f.1::f.2).map λ(x:Nat)=>(x:Int)
theorem Xwy{st:List (Va×List Int)}{f:Gq}{rest:List Gq}(h:st.map (·.2)=(f::rest).reverse.map FC):∃b i,st=b++[(i,FC f)]/\b.map (·.2)=rest.reverse.map FC:=by
 have a:st≠[]:=λe=>by subst e;simp at h
 have d:=Y5p a;rw[<-d,List.reverse_cons,Yn,Yn]at h;simp only[Yu,ED]at h
 have c:=List.append_inj' h O;refine⟨st.dropLast,(st.getLast a).1,?_,c.1⟩;have g:(st.getLast a).2=FC f:=su c.2
 rw[<-g];exact d.symm
theorem Xxt(a:Aa B w I N):Aa B w I (Am []::N):=by
 obtain⟨h,c,b⟩:=a;exact⟨h,⟨[],h,O,O,c⟩,b⟩
def D3(I:Im)(p:Addr)(Q:List Pl)(n:Nat):Prop:=∃a c P,At I p [.slice a P.length c,Ab n]/\P.length<=c/\RS I a 3 P.length (P.flatMap Aq)/\BZ I P Q
theorem D3.mono{Q:List Pl}(h:D3 I p Q n)(b:Le I J):D3 J p Q n:=let⟨a,c,P,d,e,f,g⟩:=h;⟨a,c,P,d.mono b,e,f.mono b,g.mono b⟩
theorem BZ.kU{P:List Ez}{Q:List Pl}(h:BZ I P Q){k c:Int}(g:Q[o]?=some (k,c,[])):P[o]?=some (k,c,.slice none 0 0):=by
 have d:o<Q.length:=(Y1.1 g).1;obtain⟨⟨j,l,m⟩,f⟩:∃p,P[o]?=some p:=⟨_,Y2 (by rw[h.1];exact d)⟩
 obtain⟨a,b,i,_⟩:=h.2 o _ _ f g;have e:=i O;simp only at a b e
 subst a;subst b;subst e;exact f
def iter{β:Type}(f:β->Nat->β)(b:β):Nat->β
 | 0=>b
 | k+1=>f (iter f b k) k
def Xl(s p:Lu):Bool:=decide ((p.length:Int)<=(s.length:Int))&&(s.take (p.length:Int).toNat==p)
def BR:List UInt8->Int->List Int->Int×Int
 | [],_,o=>if 0<o.length then(23,o.getD (o.length-1) 0)else(0,0)
 | c::r,i,o =>
  if c.toNat=40 then(if o.length=4 then(24,i)else BR r (i+1) (o++[i]))
  else if c.toNat=41 then(if o.length=0 then(10,i)else BR r (i+1) (o.take (o.length-1)))
  else if c.toNat=124 then(if o.length=0 then(10,i)else BR r (i+1) o)
  else if c.toNat=92 then(match r with|[]=>(10,i)|_::r'=>BR r' (i+2) o)
  else BR r (i+1) o
theorem P9(i:Int)(o:List Int):BR [] i o=if 0<o.length then(23,o.getD (o.length-1) 0)else(0,0):=by rw[BR.eq_def]
theorem Xi9(c:UInt8)(r:List UInt8)(i:Int)(o:List Int):BR (c::r) i o=if c.toNat=40 then(if o.length=4 then(24,i)else BR r (i+1) (o++[i]))
  else if c.toNat=41 then(if o.length=0 then(10,i)else BR r (i+1) (o.take (o.length-1)))
  else if c.toNat=124 then(if o.length=0 then(10,i)else BR r (i+1) o)
  else if c.toNat=92 then(match r with|[]=>(10,i)|_::r'=>BR r' (i+2) o)
  else BR r (i+1) o:=by rw[BR.eq_def]
def ZC(l:Lu):Int×Int:=if 200<l.length then(2,0)else BR l 0 []
end DN
namespace Go.Proofs.W9
open Gk DN
open Tryz
def He(E:Nat)(st:List (Va×List Int)):X1:=Am (st.map λx=>An E 1 x.1 x.2.length (x.2.map Ab))
theorem QZ{a pre r:List Nat}(h:a=pre++b::r)(c:Lv):(((o::a).map λ(x:Nat)=>(x:Int)).map Ab++c)[1+(pre.length:Int).toNat*1]?=some (Ab b):=by
 subst h;simp[Ku 1]
theorem R2(d n:Nat)(h sv e:Va)(xs:Lv)(g b:Int)(F:La)(f:Aa B w I (Ac d [h,sv,e] 501::An 522 3 h n xs::F))(l:n<=1000):Cz 432 [ptr d 0,.int .u8 g,.int .u8 b] w λv w'=>v=.tuple #[]/\∃a,Aa B w' I (Ac d [a,sv,e] 501::An 522 3 a (n+1) (xs++[.int .u8 g,.int .u8 b,.slice none 0 0])::F):=by
 refine gG 13 ?_;intro j i k c w f;exact⟨O,_,f⟩
theorem Xrq(s n:Nat)(m sv t:Va)(xs:Lv)(st:List (Va×List Int))(Ar:List Int)(at_:Int)(F:La)(a:Aa B w I (Ac s [m,sv,t] 501::An 522 3 m n xs::An 121 1 sv st.length (st.map (·.1))::An 3 1 t Ar.length (Ar.map Ab)::He 3 st::F))(H:n<=1000)(G:st.length<=1000)(y:Ar.length<=1000):Cz 433 [ptr s 0,Ab at_] w λv w'=>v=.tuple #[]/\∃q r o u,Aa B w' I (Ac s [q,r,o] 501::An 522 3 q (n+1) (xs++[.int .u8 4,.int .u8 0,.slice none 0 0])::An 121 1 r (st.length+1) (st.map (·.1)++[u])::An 3 1 o (Ar.length+1) (Ar.map Ab++[Ab at_])::He 3 (st++[(u,[(n:Int)])])::F):=by
 refine gG 0 ?_;obtain⟨J,K,rfl,z,_⟩:=a.vS 1;obtain⟨L,M,rfl,A,_⟩:=a.vS 2;obtain⟨C,D,rfl,x,_⟩:=a.vS 3;refine gD [0] [23,26] [0,1,2,3,4,5,6,7,8,9,10,14,15,16,17,18] ?_;intro w a;refine gH 14 (gH 2 (gB 11 19 [] [11,12,13,20,21,22,23,24,25,26] ?_ ?_))
 ·refine gH 1 ?_;intro d w a;refine gH 0 (gB 12 19 [] [12,13,20,21,22,23,24,25,26] ?_ ?_)
  ·refine gH 1 ?_;intro p w a;refine gH 0 (gB 13 19 [19,20,21,22,23,24,25,26] [13,20,21,22,23,24,25,26] ?_ ?_)
   ·refine gH 1 ?_;intro e i b w a;refine gH 1 ?_;intro g w a;refine gH 1 ?_;intro f j c w a;refine gH 3 ?_;intro w a;refine gH 3 ?_;intro w a;refine gH 1 ?_;replace a:=a.A2 (k:=0) (E:=3) (size:=1) (n:=1) O O (by unfold maxLen;omega);replace a:=a.push (k:=4) O;refine gC 0 (R2 _ _ _ _ _ _ _ _ _ a om) ?_;rintro _ w ⟨rfl,m,a⟩;refine gG 0 ?_;replace a:=a.say (k:=4) (A':=He 3 (st++[(.slice (some (ad d 0)) 1 1,[(n:Int)])])) O (λh l=>by rw[He,Yn];exact l);exact⟨O,_,_,_,_,a⟩
   ·refine gH 1 ?_;intro g w a;refine gH 1 ?_;intro e i b w a;refine gH 1 ?_;intro f j c w a;refine gH 3 ?_;intro w a;refine gH 3 ?_;intro w a;refine gH 1 ?_;replace a:=a.A2 (k:=0) (E:=3) (size:=1) (n:=1) O O (by unfold maxLen;omega);replace a:=a.push (k:=4) O;refine gC 0 (R2 _ _ _ _ _ _ _ _ _ a om) ?_;rintro _ w ⟨rfl,m,a⟩;refine gG 0 ?_;replace a:=a.say (k:=4) (A':=He 3 (st++[(.slice (some (ad d 0)) 1 1,[(n:Int)])])) O (λh l=>by rw[He,Yn];exact l);exact⟨O,_,_,_,_,a⟩
  ·refine gH 1 ?_;intro g w a;refine gH 1 ?_;intro p w a;refine gH 1 ?_;intro e i b w a;refine gH 1 ?_;intro f j c w a;refine gH 3 ?_;intro w a;refine gH 3 ?_;intro w a;refine gH 1 ?_;replace a:=a.A2 (k:=0) (E:=3) (size:=1) (n:=1) O O (by unfold maxLen;omega);replace a:=a.push (k:=4) O;refine gC 0 (R2 _ _ _ _ _ _ _ _ _ a om) ?_;rintro _ w ⟨rfl,m,a⟩;refine gG 0 ?_;replace a:=a.say (k:=4) (A':=He 3 (st++[(.slice (some (ad d 0)) 1 1,[(n:Int)])])) O (λh l=>by rw[He,Yn];exact l);exact⟨O,_,_,_,_,a⟩
 ·refine gH 1 ?_;intro g w a;refine gH 1 ?_;intro d w a;refine gH 1 ?_;intro p w a;refine gH 1 ?_;intro e i b w a;refine gH 1 ?_;intro f j c w a;refine gH 3 ?_;intro w a;refine gH 3 ?_;intro w a;refine gH 1 ?_;replace a:=a.A2 (k:=0) (E:=3) (size:=1) (n:=1) O O (by unfold maxLen;omega);replace a:=a.push (k:=4) O;refine gC 0 (R2 _ _ _ _ _ _ _ _ _ a om) ?_;rintro _ w ⟨rfl,m,a⟩;refine gG 0 ?_;replace a:=a.say (k:=4) (A':=He 3 (st++[(.slice (some (ad d 0)) 1 1,[(n:Int)])])) O (λh l=>by rw[He,Yn];exact l);exact⟨O,_,_,_,_,a⟩
theorem Qb(bc:Nat)(lv sv av H:Va)(g:List Ez)(K:List Pl)(st:List (Va×List Int))(o:Nat)(d:List Nat)(Ar:List Int)(F:La)
  (a:Aa B w I (Ac bc [lv,sv,av] 501::An 522 3 lv g.length (g.flatMap Aq)::An 121 1 sv (st.length+1) (st.map (·.1)++[H])::An 3 1 av Ar.length (Ar.map Ab)::He 3 (st++[(H,(o::d).map λ(x:Nat)=>(x:Int))])::F))
  (hR:BZ I g K) (ab:∀b∈d,b≠o/\b<g.length) (ho:o<g.length) (ko co:Int) (l:g[o]?=some (ko,co,.slice none 0 0)) (t:K[o]?=some (ko,co,[])) (hn:g.length<=1000) (hd:st.length<=1000) (b3:Ar.length=st.length+1) (b2:d.length<=1000) :Calls prog 434 #[ptr bc 0] w (AY λv w'=>v=.tuple #[]/\∃aj al M P' J,Le I J/\BZ J P' (Ig g.length o K [] d++[(6,0,[])])/\
   Aa B w' J (Ac bc [aj,al,M] 501::An 522 3 aj P'.length (P'.flatMap Aq)::An 121 1 al st.length (st.map (·.1))::An 3 1 M st.length ((Ar.take st.length).map Ab)::He 3 st::F)):=by
 obtain⟨gl,cl,rl,rfl,bb,W,bd,X,a⟩:=a.AF (k:=1) O om;try dsimp only[List.set]at a
 obtain⟨gs,sc,rs,rfl,af,ag,ah,ai,a⟩:=a.AF (k:=2) O om;try dsimp only[List.set]at a
 obtain⟨aa,ac,rfl,b1,_⟩:=a.vS 3;refine gH 6 ?_;rw[show((st.length+1:Nat):Int)-1=(st.length:Int)by omega];refine gH 7 (.val (.lo O a (k:=2) O Mr (v:=H) sz) O (gG 1 (gD [0] [16,19] [0,1,2,3,4,5,6,7,8,9,10,11,12,13,14,15,16,17,18,19] ?_)));intro w a;refine gH 14 (gH 3 ?_);intro w a;refine gH 3 ?_;intro w a;replace a:=a.AR (k:=2) (n:=st.length+1) (cap:=sc) O af ag ah ai;try dsimp only[List.set]at a
 replace a:=a.OK (k:=2) (m:=(st.length:Int).toNat) O sz;try dsimp only[List.set]at a
 obtain⟨a2,c2,e2,a⟩:=a.JX (k:=3) (f:=Ab) (m:=(st.length:Int).toNat) O (by simp;omega);try dsimp only[List.set]at a
 have e3:(st.map (·.1)++[H]).take ((st.length:Int).toNat*1)=st.map (·.1):=by rw[Dm];exact List.take_left' sz
 rw[e3]at a;rw[e2]at a;have e4:He 3 (st++[(H,(o::d).map λ(x:Nat)=>(x:Int))])=Am ((st.map λx=>An 3 1 x.1 x.2.length (x.2.map Ab))++[An 3 1 H ((o::d).map λ(x:Nat)=>(x:Int)).length (((o::d).map λ(x:Nat)=>(x:Int)).map Ab)]):=by rw[He,Yn];rfl
 rw[e4]at a;replace a:=a.pop (k:=4) O;try dsimp only[List.set]at a
 obtain⟨gm,cm,rm,Z,be,bf,bg,bh,hT⟩:=a.AF (k:=0) O sz;have a0:((o::d).map λ(x:Nat)=>(x:Int)).length=d.length+1:=by simp
 rw[a0]at Z;subst Z;have a:=hT;clear hT;try dsimp only[List.set]at a
 generalize sliced (some (ad gs 0)) 0 (st.length:Int).toNat sc 1=E at a;generalize Value.slice a2 (Ar.take (st.length:Int).toNat).length c2=A at a;refine gH 2 ?_;obtain⟨ao,ay,ax⟩:∃ao,(0<d.length->ao=some (ad gm 1))/\sliced (some (ad gm 0)) (1:Int).toNat (d.length+1) cm 1=.slice ao d.length (cm-1):=⟨if cm=1 then some (ad gm 0)else some (ad gm 1),λh=>Y3 om,by simp[sliced,CY]⟩
 rw[ax];refine gG 2 (.lk [0,3,38,39] (σ:=List Nat×List Nat×List Ez×List Pl×Va×Im) (λ(pre,rem,P,Q,G,J) _m=>(40,Ab pre.length)::_m) (λ(pre,rem,P,Q,G,J) w=>d=pre++rem/\Le I J/\Er J o P Q/\P.length=g.length/\(∃k c,P[o]?=some (k,c,G))/\(∃k c,Q[o]?=some (k,c,pre.map λ(x:Nat)=>(x:Int)+1))/\(pre=[]->G=.slice none 0 0)/\Ig g.length o Q (pre.map λ(x:Nat)=>(x:Int)+1) rem=Ig g.length o K [] d/\Aa B w J (An 3 1 G pre.length ((pre.map λ(x:Nat)=>(x:Int)+1).map Ab)::Ac gm (((o::d).map λ(x:Nat)=>(x:Int)).map Ab++rm) 3::Ac bc [.slice (some (ad gl 0)) g.length cl,E,A] 501::Ac gl (P.flatMap Aq++rl) 522::An 121 1 E (st.length:Int).toNat (st.map (·.1))::An 3 1 A (Ar.take (st.length:Int).toNat).length ((Ar.take (st.length:Int).toNat).map Ab)::He 3 st::F)) (λ(pre,rem,P,Q,G,J)=>rem.length) ([],d,g,K,.slice none 0 0,I) ⟨O,Le.refl I,hR.x o,O,⟨_,_,l⟩,⟨_,_,t⟩,λ_=>rfl,O,a.Ai _ _⟩ ?_);rintro⟨pre,rem,P,Q,G,J⟩ w ⟨s,hJ,hX,D,⟨ko,co,l⟩,⟨kq,cq,t⟩,a1,Y,a⟩;have z:d.length=pre.length+rem.length:=by rw[s,Y0]
 refine gN 1 ?_ ?_<;>intro ba
 ·obtain⟨b,r,rfl⟩:∃b r,rem=b::r:=by
   cases rem with
   | nil=>simp at z;omega
   | cons b r=>exact⟨b,r,O⟩
  have U:=ay om;subst U;have V:=(ab b (by rw[s];simp)).1;have a9:=(ab b (by rw[s];simp)).2;have bj:pre.length<=1000:=om
  refine gH 1 (.val (.lo O a (k:=1) O BJ (v:=Ab b) (QZ s rm)) O (gG 1 (gD [1,1,1] [23] [0,1,2,3,4,5,6,7,8,9,10,11,12,13,14,15,16,17,18,19,20,21,22,23] ?_)));intro w a;refine gH 6 (A1.y 6 (λw _ _ T a=>.lo O a (k:=0) O BJ (v:=Ab (o:Nat)) O) (gH 6 (A1.y 13 (λw _ _ T a=>.lo O a (k:=0) O BJ (v:=Ab (o:Nat)) O) (gH 2 (A1.y 16 (λw _ _ T a=>.lo O a (k:=2) O Mr (v:=G) (ly l rl)) (gH 3 ?_))))));intro bq w a;refine gH 1 ?_;intro L S aq w a;refine gH 2 (A1.e ?_);refine .s1 a (k:=3) O O O O mP (by rw[Y0,oK Aq 3 iM];(try simp only[se]);omega) ?_;intro w a;try dsimp only[List.set]at a
  rw[XX (by(try simp only[se]);omega)]at a;refine gG 0 (gD [2] [13] [0,1,2,3,4,5,6,7,8,9,10,11,12,13] ?_);intro w a;refine gH 11 ?_;intro R w a;refine gH 2 (A1.e ?_);refine .s1 a (k:=4) O O O O mP (by rw[Y0,oK Aq 3 iM];(try simp only[se]);omega) ?_;intro w a;rw[XX (by(try simp only[se]);omega)]at a;obtain⟨J2,i,az,a⟩:=a.fZ 0;have C:Br J2 (.slice (some (ad R 0)) 1 1) [(g.length:Int)]:=⟨(λh=>by cases h),_,_,O,Ya _,O,λ_=>⟨_,O,O,_,_,_,az,λj u hj=>by simpa using hj⟩⟩
  refine gG 0 ?_
  skip
  refine gH 1 ?_;rw[show((pre.length:Nat):Int)+1=((pre++[b]).length:Nat)by simp];refine gG 1 ?_;refine rd (pre++[b],r,Kj (Kj P o (.slice L (pre.length+1) S)) b (.slice (some (ad R 0)) 1 1),Dy (Dy Q o (pre.map (λ(x:Nat)=>(x:Int)+1)++[(b:Int)+1])) b [(g.length:Int)],.slice L (pre.length+1) S,J2) ⟨by rw[s];simp,hJ.trans i,((hX.Adc _ _).mono i).Adb _ _ _ C,by simp[Kj,D],⟨ko,co,?_⟩,⟨kq,cq,?_⟩,λh=>by simp at h,?_,?_⟩ sz
  ·simp[Kj,PM,l,V]
  ·simp[Dy,PM,t,V]
  ·rw[<-Y,Ig];simp
  ·simpa using a
 refine gG 0 ?_;have ae:rem=[]:=by
  cases rem with
  | nil=>rfl
  | cons b r=>simp at z;omega
 subst ae;replace a:=a.drop (k:=1) O;obtain⟨J2,i,C,a⟩:=Xym (k:=0) (xs:=pre.map λ(x:Nat)=>(x:Int)+1) a (by rw[Yj];rfl) (λh=>a1 (su h));replace a:=a.AR (k:=1) (n:=P.length) (cap:=cl) O om W (by rw[oK Aq 3 iM]) (by rw[oK Aq 3 iM]at X ⊢;omega);rw[<-D]at a ⊢;refine gC 1 (R2 _ _ _ _ _ _ _ _ _ a om) ?_;rintro _ w ⟨rfl,ak,a⟩;refine gG 0 ?_;replace a:=a.say (k:=1) (A':=An 522 3 ak (P.length+1) ((P++[((6:Int),(0:Int),Value.slice none 0 0)]).flatMap Aq)) O (λh hh=>by rw[M6];exact hh);refine⟨O,ak,E,A,P++[(6,0,.slice none 0 0)],J2,hJ.trans i,?_,?_⟩
 ·rw[D,<-Y,Ig];exact((hX.mono i).back (λp q hp hq=>by rw[l]at hp;rw[t]at hq;cases hp;cases hq;exact C)).snoc 6 0 _ _ (Br.nil _)
 ·have e5:(Ar.take (st.length:Int).toNat).length=st.length:=by(try rw[Yd]);rw[Yl];omega
  rw[e5]at a;rw[Y0];exact a
theorem Xgq(s p:Lu)(w:Wo)(b:s.length<=140737488351232)(a:p.length<=140737488351232):Cz 293 [S s,S p] w λv w'=>v=.bool (Xl s p)/\w=w':=by
 refine gH 14 ?_;exact gG 1 ⟨O,O⟩
theorem n_(s p:Lu)(w:Wo)(b:s.length<=140737488351232)(a:p.length<=140737488351232):Cz 234 [S s,S p] w λv w'=>v=.bool (Xl s p)/\w=w':=by
 refine gC 3 (Xgq _ _ _ b a) ?_;rintro _ _ ⟨rfl,rfl⟩;exact gG 1 ⟨O,O⟩
open Pc Ul
structure AX(I:Im):Prop where
 gw:Bw I
 pow : ∀(B w : World) (N : List X1), Aa B w I N → Go.Lib.TabIs prog w "internal/strconv.uint64pow10" .u64 Go.Lib.pow10Tab
 max:∀(B w:Wo) (N:La),Aa B w I N->∃m,w.cell? ⟨1,0,none⟩=some (.int .i64 m)
theorem AX.mono(h:AX I)(c:Le I J):AX J :=
 have e:∀(B w:Wo) (N:La),Aa B w J N->Aa B w I N:=λB w N ⟨g,d,a⟩=>⟨g,d,a.os,a.tape,a.output,λb o hi=>a.GN b o (c.h b o hi),a.own,a.nodup,λb o f=>by
  cases hi:I b with
  | none=>rfl
  | some x=>have:=a.apart b o f;rw[c.h b x hi]at this;cases this⟩
 ⟨h.gw.mono c,λB w N s=>h.pow B w N (e B w N s),λB w N s=>h.max B w N (e B w N s)⟩
theorem lW(a:Aa B w I N)(n:Nat):Aa B (w.drewN n) I N:=a.world O O O O
theorem Xvd(a:Aa B w I N)(c:Array Obj):Aa B (Go.Sort.grow w c) I N :=
 a.grown ⟨O,O,O,by simp[Go.Sort.grow],λk b=>by simp[Go.Sort.grow,Array.getElem?_append,b]⟩
theorem SL(n:Nat)(f:n<=65535)(b:AX I)(N:La)(a:Aa B w I N):Calls prog 136 #[Ab (n:Nat)] w (AY λv w'=>v=S (Go.Lib.decDigits n)/\Aa B w' I N) :=
 (strconv_Itoa n om om w (b.pow B w N a)).mono λe w' c=>by
  obtain⟨rfl,k,d,rfl⟩:=c;refine⟨_,O,?_,Xvd (lW a k) d⟩;unfold Go.Lib.itoa;rw[Y3 om];(try rw[Yd])
theorem Xr2(s:Lu)(f:s.length<=1000000)(b:AX I)(N:La)(a:Aa B w I N):Calls prog 85 #[S s,S BU] w (AY λv w'=>v=.tuple #[S (Go.Lib.cut s BU).1,S (Go.Lib.cut s BU).2.1,.bool (Go.Lib.cut s BU).2.2]/\Aa B w' I N):=by
 obtain⟨m,d⟩:=b.max B w N a;refine(strings_Cut ⟨s.toArray⟩ ⟨BU.toArray⟩ m w (by show s.length<_;omega) d).mono λe w' c=>?_
 obtain⟨rfl,n,rfl⟩:=c;exact⟨_,O,O,lW a n⟩
theorem rK(s:Lu)(c:Ui)(g:s.length<=1000000)(b:AX I)(N:La)(a:Aa B w I N):Calls prog 85 #[S s,S [c]] w (AY λv w'=>v=.tuple #[S (AP [c] s),S ((Xn [c] s).drop 1),.bool (!(Xn [c] s).isEmpty)]/\Aa B w' I N):=by
 obtain⟨m,f⟩:=b.max B w N a;refine(strings_Cut ⟨s.toArray⟩ ⟨[c].toArray⟩ m w (by show s.length<_;omega) f).mono λe w' d=>?_
 obtain⟨rfl,n,rfl⟩:=d;refine⟨_,O,?_,lW a n⟩;show Value.tuple #[S (Go.Lib.cut s [c]).1,S (Go.Lib.cut s [c]).2.1,.bool (Go.Lib.cut s [c]).2.2]=_
 rw[Nu]
theorem x6(l:List ByteArray):l.map Value.string=(l.map (·.data.toList)).map S:=by
 rw[jM];rfl
theorem Pn(s:Lu)(i:s.length<=1000000)(f:AX I)(N:La)(a:Aa B w I N):Calls prog 138 #[S s,S [47]] w (AY λv w'=>∃b,v=.slice (some (ad b 0)) (AU s).length (AU s).length/\Aa B w' I (Ac b ((AU s).map S) 9::N)):=by
 obtain⟨m,h⟩:=f.max B w N a;refine(strings_Split ⟨s.toArray⟩ ⟨[47].toArray⟩ m w (by show s.length<_;omega) h de).mono λe w' g=>?_
 obtain⟨rfl,rfl⟩:=g;have c:(AU s).length=Go.Lib.countB ⟨s.toArray⟩ ⟨[47].toArray⟩+1:=eG _ s (Ya _);have d:(Go.Lib.splitB ⟨[47].toArray⟩ 0 (Go.Lib.countB ⟨s.toArray⟩ ⟨[47].toArray⟩) ⟨s.toArray⟩).map Value.string=(AU s).map S:=by
  rw[x6,Go.Lib.splitB_data];show List.map S (Go.Lib.splitK [47] 0 (Go.Lib.count s [47]) s)=_
  rw[LZ _ s (Ya _)]
 refine⟨_,O,w.heap.size,by rw[c],?_⟩;rw[d];exact a.alloc _
theorem SE(p:Lu)(hl:p.length<=1000000)(hK:AX I)(N:La)(f:Aa B w I N):Ce B I N 307 [S p] w (S (Hi p)):=by
 refine gC 2 (n_ p _ _ om de) ?_;rintro _ _ ⟨rfl,rfl⟩;refine gM 1 ?_ ?_<;>intro d T
 ·refine gG 2 (⟨?_,f⟩);cases p with
  | nil=>rfl
  | cons a b=>rw[Hi,Y3 (λe=>by subst e;simp[Xl]at d;omega)]
 refine gG 2 ?_;have am:1<=p.length:=by cases p with|nil=>simp[Xl]at d|cons a b=>simp
 have Q:=iP (AU (p.drop 1));rw[oZ,Y6]at Q;refine gP 2 [] (Pn (p.drop 1) (by rw[Y6];omega) hK N) ?_;rintro _ w ⟨u,rfl,f⟩;refine gG 2 ?_;replace f:=f.Ai 9 1;refine .lk [16,17] (σ:=Va×Nat) (λ(H,i) _m=>(3,H)::(4,.bool (decide (0<i)&&Sg ((AU (p.drop 1)).getD (i-1) [])))::(18,Ab (i:Nat))::_m) (λ(H,i) w=>i<=(AU (p.drop 1)).length/\Aa B w I (An 9 1 H (List.foldl BQ [] ((AU (p.drop 1)).take i)).length ((List.foldl BQ [] ((AU (p.drop 1)).take i)).map S)::Ac u ((AU (p.drop 1)).map S) 9::N)) (λ(H,i)=>(AU (p.drop 1)).length-i) (.slice none 0 0,0) ⟨Y4 _,f⟩ ?_;rintro⟨H,i⟩ w ⟨hi,f⟩;refine gN 1 ?_ ?_<;>intro U
 ·obtain⟨x,hx⟩:∃x,(AU (p.drop 1))[i]?=some x:=⟨_,Y2 om⟩
  have v:(List.foldl BQ [] ((AU (p.drop 1)).take (i+1)))=BQ (List.foldl BQ [] ((AU (p.drop 1)).take i)) x:=by rw[Yv,hx,M7];rfl
  have L:(AU (p.drop 1)).getD i []=x:=by rw[Yf,hx];rfl
  have A:(decide (0<i+1)&&Sg ((AU (p.drop 1)).getD (i+1-1) []))=Sg x:=by rw[Nat.add_sub_cancel,L,decide_eq_true om,Cv]
  obtain⟨ka,kc,rfl,P,_⟩:=f.vS 0;have ak:(List.foldl BQ [] ((AU (p.drop 1)).take i)).length<=1000001:=by
   have h1:=iP (List.foldl BQ [] ((AU (p.drop 1)).take i));have h2:=xy ((AU (p.drop 1)).take i) [];have h3:CT (AU (p.drop 1))=CT ((AU (p.drop 1)).take i)+CT ((AU (p.drop 1)).drop i):=by rw[<-tx,Fw]
   have h4:=oZ (p.drop 1);rw[Y6]at h4;rw[show CT []=0 from O]at h2;omega
  refine gH 1 ?_;refine .val (.lo O f (k:=1) O Bg (by rw[Yk];(try rw[Yd]);rw[Dm,Yr,hx];rfl)) O ?_;refine gM 5 ?_ ?_<;>intro h V
  ·refine gG 2 ?_;refine⟨(_,i+1),⟨O,by show some (Value.bool _)=some _;rw[A];rw[show x=[46]by simpa using h];rfl,O,O,O,trivial⟩,⟨om,?_⟩,od⟩;rw[v,BQ,Y9 (su h)];exact f
  refine gM 2 ?_ ?_<;>intro q W
  ·refine gH 6 ?_;obtain⟨a2,c2,e2,f⟩:=f.JX (m:=(max 0 (((List.foldl BQ [] ((AU (p.drop 1)).take i)).length:Int)-1)).toNat) (l:=(List.foldl BQ [] ((AU (p.drop 1)).take i))) (k:=0) O om;rw[e2];rw[show(max 0 (((List.foldl BQ [] ((AU (p.drop 1)).take i)).length:Int)-1)).toNat=(List.foldl BQ [] ((AU (p.drop 1)).take i)).length-1 by omega]at f ⊢;refine gG 3 ?_;refine⟨(_,i+1),⟨O,by show some (Value.bool _)=some _;rw[A];rw[show x=[46,46]by simpa using q];rfl,O,O,O,trivial⟩,⟨om,?_⟩,od⟩;rw[v,BQ,Y3 (su h),Y9 (su q),List.dropLast_eq_take];exact f
  refine gG 8 ?_;intro ac ab ae J w f;refine⟨(_,i+1),⟨O,by show some (Value.bool _)=some _;rw[A];rw[Sg,show(x==[46])=false by simpa using h,show(x==[46,46])=false by simpa using q];rfl,O,O,O,trivial⟩,⟨om,?_⟩,od⟩;rw[v,BQ,Y3 (su h),Y3 (su q),Yn,Y0];exact f
 have M:i=(AU (p.drop 1)).length:=om
 subst M;rw[Fy]at f;obtain⟨ka,kc,rfl,P,_⟩:=f.vS 0;have G:=xy (AU (p.drop 1)) [];rw[oZ,show CT []=0 from O,Yk,Y6]at G;have al:=iP (List.foldl BQ [] (AU (p.drop 1)));refine gG 4 (.lk [3,4,38,39] (σ:=Nat) (λj _m=>(40,Ab (j:Nat))::(7,S (Kc ((List.foldl BQ [] (AU (p.drop 1))).take j)))::_m) (λj w=>j<=(List.foldl BQ [] (AU (p.drop 1))).length/\Aa B w I (An 9 1 (.slice ka (List.foldl BQ [] (AU (p.drop 1))).length kc) (List.foldl BQ [] (AU (p.drop 1))).length ((List.foldl BQ [] (AU (p.drop 1))).map S)::Ac u ((AU (p.drop 1)).map S) 9::N)) (λj=>(List.foldl BQ [] (AU (p.drop 1))).length-j) 0 ⟨Y4 _,f⟩ ?_);rintro j w ⟨hj,f⟩;refine gN 1 ?_ ?_<;>intro X
 ·obtain⟨x,hx⟩:∃x,(List.foldl BQ [] (AU (p.drop 1)))[j]?=some x:=⟨_,Y2 om⟩
  have F:Kc ((List.foldl BQ [] (AU (p.drop 1))).take (j+1))=Kc ((List.foldl BQ [] (AU (p.drop 1))).take j)++47::x:=by rw[Yv,hx];exact Xtu _ _
  have ao:(Kc ((List.foldl BQ [] (AU (p.drop 1))).take j)).length+(x.length+1)<=CT (List.foldl BQ [] (AU (p.drop 1))):=by
   rw[show x.length+1=(47::x).length from O,<-Y0,<-F,vx]
   have:CT (List.foldl BQ [] (AU (p.drop 1)))=CT ((List.foldl BQ [] (AU (p.drop 1))).take (j+1))+CT ((List.foldl BQ [] (AU (p.drop 1))).drop (j+1)):=by rw[<-tx,Fw]
   omega
  obtain⟨ag,K,o⟩:∃g rest,ka=some (ad g 0)/\Aa B w I (Ac g ((List.foldl BQ [] (AU (p.drop 1))).map S++rest) 9::Ac u ((AU (p.drop 1)).map S) 9::N):=by
   obtain⟨g,c,rest,hv,_,_,_,_,hs⟩:=f.AF (k:=0) O om;injection hv with R aq ar
   exact⟨g,rest,R,hs⟩
  obtain⟨rfl,o⟩:=o;refine gG 0 (.val (.io O O om om D6 AQ) O ?_);refine .val (.lo O o (k:=0) O Bg (by rw[Yk];(try rw[Yd]);rw[Dm,Ye (by rw[Yj];omega),Yr,hx];rfl)) O ?_;clear o;refine gG 8 ?_;refine⟨j+1,⟨O,by show some (S _)=some _;rw[F];simp,O,O,O,O,trivial⟩,⟨om,f⟩,om⟩
 refine gG 0 ?_;have s:(List.foldl BQ [] (AU (p.drop 1))).take j=(List.foldl BQ [] (AU (p.drop 1))):=Yo om;have Z:(Kc ((List.foldl BQ [] (AU (p.drop 1))).take j)).length<=CT (List.foldl BQ [] (AU (p.drop 1))):=by rw[s,vx];exact Ya _
 refine gM 6 ?_ ?_<;>intro t Y
 ·refine gH 5 (.nil (.ret ?_));refine λ_ E=>GD E O ?_
  have s:(List.foldl BQ [] (AU (p.drop 1))).take j=(List.foldl BQ [] (AU (p.drop 1))):=Yo om;rw[s];have n:(decide (0<(AU (p.drop 1)).length)&&Sg ((AU (p.drop 1)).getD ((AU (p.drop 1)).length-1) []))=Sg ((AU (p.drop 1)).getLastD []):=by
   have z:=LW (p.drop 1);have C:0<(AU (p.drop 1)).length:=K6.2 z;rw[decide_eq_true C,Cv]
   congr 1
   rw[Y64,Y63,Yf]
  have D:p=47::p.drop 1:=by
   cases p with
   | nil=>simp[Xl]at d
   | cons a b=>simp[Xl]at d;rw[d.2];rfl
  have r:Hi p=Kc (List.foldl BQ [] (AU (p.drop 1)))++(if Sg ((AU (p.drop 1)).getLastD [])||(List.foldl BQ [] (AU (p.drop 1))).length==0 then[47]else[]):=by rw[D,Hi,Y9 O];rfl
  refine⟨_,O,?_,f.y 0 2⟩;rw[r];rw[Y9 (by rw[<-n];simpa using t)]
 refine gH 2 (.nil (.ret ?_));refine λ_ E=>GD E O ?_
 have s:(List.foldl BQ [] (AU (p.drop 1))).take j=(List.foldl BQ [] (AU (p.drop 1))):=Yo om;rw[s];have n:(decide (0<(AU (p.drop 1)).length)&&Sg ((AU (p.drop 1)).getD ((AU (p.drop 1)).length-1) []))=Sg ((AU (p.drop 1)).getLastD []):=by
  have z:=LW (p.drop 1);have C:0<(AU (p.drop 1)).length:=K6.2 z;rw[decide_eq_true C,Cv]
  congr 1
  rw[Y64,Y63,Yf]
 have D:p=47::p.drop 1:=by
  cases p with
  | nil=>simp[Xl]at d
  | cons a b=>simp[Xl]at d;rw[d.2];rfl
 have r:Hi p=Kc (List.foldl BQ [] (AU (p.drop 1)))++(if Sg ((AU (p.drop 1)).getLastD [])||(List.foldl BQ [] (AU (p.drop 1))).length==0 then[47]else[]):=by rw[D,Hi,Y9 O];rfl
 refine⟨_,O,?_,f.y 0 2⟩;rw[r];rw[Y3 (by rw[<-n,pJ];simpa using t),Yy]
theorem Xup(n:Nat)(h:n<=65535):(Go.Lib.decDigits n).length<=5:=by
 rw[Go.Lib.decDigits_length];have step:∀k m,m<10^(k+1)->Go.Lib.nDigits m<=k+1:=by
  intro k
  induction k with
  | zero=>intro m b;rw[Go.Lib.nDigits_small (su b)];exact Ya _
  | succ k c =>
   intro m b
   by_cases a:m<10
   ·rw[Go.Lib.nDigits_small a];omega
   ·rw[Go.Lib.nDigits_big a]
    have:=c (m/10) (by rw[T9]at b;omega)
    omega
 exact step 4 n om
theorem Xu2(u:U)(j:Py u)(d:AX I)(N:La)(a:Aa B w I N):Ce B I N 308 [.agg #[S u.ZE,S u.host,Ab (u.port:Nat),S u.path,S u.query,.bool u.ask]] w (S (iW u)):=by
 refine gG 2 ?_;intro b1 w a;obtain⟨f,g,c,h,i⟩:=j;have e:=Xup u.port c;refine gN 10 ?_ ?_<;>intro b
 ·refine gE 3 (SL _ c d) ?_;intro w a;refine gG 5 (⟨?_,a.s⟩);rw[iW,Y3 om];simp[Yg]
 refine gG 2 (⟨?_,a.s⟩);rw[iW,Y9 om];simp[Yg]
theorem Xz9(u:U)(g:Py u):(iW u).length<=3000000:=by
 obtain⟨c,d,b,e,f⟩:=g;have a:=Xup u.port b;unfold iW;split<;>simp only[Y0,Y5,Yh]<;>omega
theorem vA(u:U)(c:Py u)(d:AX I)(N:La)(b:Aa B w I N):Ce B I N 204 [.agg #[S u.ZE,S u.host,Ab (u.port:Nat),S u.path,S u.query,.bool u.ask]] w (S (GZ u)):=by
 refine gG 2 ?_;intro b1 w b;have e:=Xz9 u c;obtain⟨f,g,j,h,i⟩:=id c;refine gD [0] [] [0,2,3,1,4,5] ?_;intro w b;refine gE 3 (Xu2 u c d) ?_;intro w b;refine gN 4 ?_ ?_<;>intro a
 ·refine gG 8 (⟨?_,b.s⟩);rw[GZ,Y9 a];simp[Yg]
 refine gG 2 (⟨?_,b.s⟩);rw[GZ,Y3 (nB a),Yy]
theorem Qi(s a:Lu):(Go.Lib.cut s a).1.length<=s.length/\(Go.Lib.cut s a).2.1.length<=s.length:=by
 unfold Go.Lib.cut;split
 ·simp only[Yl,Y6];omega
 ·simp
theorem OR(s:Lu)(j:s.length<=1000000)(f:AX I)(N:La)(g:Aa B w I N):Calls prog 85 #[S s,S BU] w (AY λv w'=>∃a b ok,v=.tuple #[S a,S b,.bool ok]/\iO s=(if ok=true/\(low a=GM\/low a=Zp)then some (low a,b)else none)/\a.length<=s.length/\b.length<=s.length/\Aa B w' I N) :=
 (Xr2 s j f N g).mono λe w' i=>by
  obtain⟨v,rfl,rfl,h⟩:=i;obtain⟨c,d⟩:=Qi s BU;exact⟨_,O,_,_,_,O,Xzy s,c,d,h⟩
theorem Rg{s t:Lu}(h:HJ s=some t):t.length<=s.length:=by
 unfold HJ at h;split at h
 ·exact Xw1 s t h
 ·cases h
theorem Xw2(s:Lu)(g:s.length<=1000000)(c:AX I)(N:La)(d:Aa B w I N):Calls prog 306 #[S s] w (AY λv w'=>∃a b,v=.tuple #[S a,Ab b]/\(match HJ s with|none=>a=[]/\b=15|some t=>a=t/\b=0)/\a.length<=s.length/\Aa B w' I N) :=
 (Xz4 s g c.gw N d).mono λe w' f=>by
  obtain⟨v,rfl,rfl,h⟩:=f;cases i:HJ s with
  | none=>exact⟨_,O,_,_,O,⟨O,O⟩,Y4 _,h⟩
  | some t=>exact⟨_,O,_,_,O,⟨O,O⟩,Rg i,h⟩
theorem k4(s a:Lu)(f:s.length<=1000000)(w:Wo):Calls prog 305 #[S s,S a] w (AY λv w'=>(∃c:Nat,v=.tuple #[Ab (c:Nat),.bool (Gf s)]/\c<=65535/\(Gf s=true->c=PG s a))/\w=w') :=
 (WA s a f w).mono λe w' d=>by
  obtain⟨v,rfl,rfl,h⟩:=d;refine⟨_,O,?_,h⟩;cases b:Gf s with
  | false=>exact⟨0,O,de,λe=>by cases e⟩
  | true =>
   refine⟨PG s a,O,?_,λ_=>rfl⟩;unfold PG;split
   ·decide
   ·unfold Gf at b;simp only[Y8,dq1]at b
    exact b.2
theorem sP(a s:Lu):(AP a s).length<=s.length:=by
 have:=Yc List.length (fl a s)
 rw[Y0]at this;omega
theorem iN(a s:Lu):(Xn a s).length<=s.length:=by
 have:=Yc List.length (fl a s)
 rw[Y0]at this;omega
theorem yG:eW [47,63,35,58]:=λj b h=>by
 match j,h with
 | 0,h=>cases h;decide
 | 1,h=>cases h;decide
 | 2,h=>cases h;decide
 | 3,h=>cases h;decide
 | _+4,h=>simp at h
theorem yF:eW [47,63,35]:=λj b h=>by
 match j,h with
 | 0,h=>cases h;decide
 | 1,h=>cases h;decide
 | 2,h=>cases h;decide
 | _+3,h=>simp at h
theorem Xwf(r:Lu):Xl r [58]=true↔r.take 1=[58]:=by
 cases r with
 | nil=>simp[Xl]
 | cons a b=>simp[Xl];intro _;omega
theorem v_(s:Lu)(hl:s.length<=1000000)(z:AX I)(N:La)(a:Aa B w I N):Ce B I N 203 [S s] w (.tuple #[.agg (uc (pU s).1).toArray,Ab ((pU s).2:Nat)]):=by
 refine gG 5 ?_;intro W w a;refine gN 0 ?_ ?_<;>intro L
 ·refine gH 3 ?_;intro w a;exact gG 0 ⟨by rw[pU,Y9 om];rfl,a.s⟩
 refine gF 1 (OR s om z) ?_;rintro _ w ⟨v,f,ok,rfl,j,V,U,a⟩;refine gE 8 (Xp0 v om) ?_;intro w a;refine gM 11 ?_ ?_<;>intro k A
 ·refine gH 3 ?_;intro w a;refine gG 0 (⟨?_,a.s⟩);rw[pU,Y3 om,j,Y3]
  ·rfl
  ·rintro⟨Y,Z⟩;rw[Y]at k;rcases Z with h|h<;>rw[h]at k<;>simp[GM,Zp]at k
 refine gG 0 ?_;have F:ok=true/\(low v=GM\/low v=Zp):=A;rw[Y9 F]at j;refine gH 5 ?_;intro X w a;refine gE 0 (Ns f _ om yG de de) ?_;intro w a;refine gH 8 ?_;intro w a;refine gE 0 (Xp0 _ (by have:=sP [47,63,35,58] f;omega)) ?_;intro w a;refine gH 4 ?_;intro w a;refine gC 0 (Vt _ _) ?_;rintro _ _ ⟨rfl,rfl⟩;refine gM 1 ?_ ?_<;>intro i M
 ·refine gH 3 ?_;intro w a;refine gG 0 (⟨?_,a.s⟩);rw[pU,Y3 om,j];simp only
  rw[TP,Y3 (su i)];rfl
 refine .skip (.ck [2,7] (σ:=Nat×Lu) (λ(d,r) _m=>(5,S r)::_m) (λ(d,r) w=>pU s=Kk (low v) (low (AP [47,63,35,58] f)) d r/\d<=65535/\r.length<=2000/\Aa B w I (Ac X [S (low v),S (low (AP [47,63,35,58] f)),Ab (d:Nat),S [],S [],.bool false] 302::Ac W [S [],S [],Ab 0,S [],S [],.bool false] 302::N)) ?_ ?_)
 ·refine gC 1 (n_ _ [58] _ (by have:=iN [47,63,35,58] f;omega) de) ?_;rintro _ _ ⟨rfl,rfl⟩;refine gM 0 ?_ ?_<;>intro l P
  ·refine gG 0 ?_;have y:=(Xwf _).1 l;have aa:=iN [47,63,35,58] f;have ab:1<=(Xn [47,63,35,58] f).length:=by
    have:=Yc List.length y
    rw[Yl,Y5,Yh]at this;omega
   refine gE 3 (Ns ((Xn [47,63,35,58] f).drop 1) [47,63,35] (by rw[Y6];have:=iN [47,63,35,58] f;omega) yF de de) ?_;intro w a;refine gC 7 (k4 _ (low v) (by have:=sP [47,63,35] ((Xn [47,63,35,58] f).drop 1);have:=iN [47,63,35,58] f;rw[Y6]at *;omega) _) ?_;rintro _ _ ⟨⟨pn,rfl,G,K⟩,rfl⟩;refine gG 8 ?_;intro w a;refine gM 0 ?_ ?_<;>intro o Q
   ·refine gH 3 ?_;intro w a;refine gG 0 (⟨?_,a.s⟩);rw[pU,Y3 om,j];simp only
    rw[TP,Y9 (su i),iQ,Y9 y,Y3 (su o)];rfl
   refine gG 0 ?_;have p:Gf (AP [47,63,35] ((Xn [47,63,35,58] f).drop 1))=true:=su o
   have J:=K p;refine En (_,_) O ⟨?_,G,?_,a⟩
   ·rw[pU,Y3 om,j];simp only
    rw[TP,Y9 (su i),iQ,Y9 y,Y9 p,J]
   ·have:=iN [47,63,35] ((Xn [47,63,35,58] f).drop 1)
    rw[Y6]at this;omega
  refine gG 0 (En (0,_) O ⟨?_,de,?_,a⟩)
  ·rw[pU,Y3 om,j];simp only
   rw[TP,Y9 (su i),iQ,Y3 (λe=>by rw[(Xwf _).2 e]at l;cases l)]
  ·have:=iN [47,63,35,58] f
   omega
 rintro⟨d,r⟩ w ⟨n,H,ac,a⟩;refine gE 1 (rK r 63 om z) ?_;intro w a;refine gF 8 (Xw2 _ (by have:=sP [63] r;omega) z) ?_;rintro _ w ⟨p1,e1,rfl,b,R,a⟩;refine gN 7 ?_ ?_<;>intro C
 ·refine gH 4 ?_;intro w a;refine gG 0 (⟨?_,a.s⟩);rw[n,Kk];cases m:HJ (AP [63] r)with
  | none=>rw[m]at b;rw[b.2];rfl
  | some t=>rw[m]at b;exact Yz b.2 C
 refine gF 1 (Xw2 _ (by have:=iN [63] r;rw[Y6];omega) z) ?_;rintro _ w ⟨q1,e2,rfl,c,T,a⟩;refine gG 8 ?_;intro w a;refine gN 0 ?_ ?_<;>intro D
 ·refine gH 4 ?_;intro w a;refine gG 0 (⟨?_,a.s⟩);rw[n,Kk];cases m:HJ (AP [63] r)with
  | none=>rw[m]at b;have:=b.2;omega
  | some t =>
   cases u:HJ ((Xn [63] r).drop 1)with
   | none=>rw[u]at c;rw[c.2];rfl
   | some t=>rw[u]at c;exact Yz c.2 D
 refine gE 1 (SE p1 (by have:=sP [63] r;omega) z) ?_;intro w a;refine gG 8 ?_;intro w a;refine gM 0 ?_ ?_<;>intro g E
 ·refine gH 5 ?_;intro w a;refine gG 0 (⟨?_,a.s⟩);rw[n,Kk];cases m:HJ (AP [63] r)with
  | none=>rw[m]at b;have:=b.2;omega
  | some t =>
   cases u:HJ ((Xn [63] r).drop 1)with
   | none=>rw[u]at c;have:=c.2;omega
   | some q =>
    rw[m]at b;rw[u]at c;obtain⟨rfl,_⟩:=b;obtain⟨rfl,_⟩:=c;have x:(if p1=[]then[47]else Hi p1)=[47]:=Y9 (by have:=UQ p1;rw[g]at this;simpa using this.symm);show _=Value.tuple #[.agg #[S (low v),S (low (AP [47,63,35,58] f)),Ab (d:Nat),S (if p1=[]then[47]else Hi p1),S q1,.bool (!(Xn [63] r).isEmpty)],Ab 0]
    rw[x]
    done
 refine gH 3 ?_;intro w a;refine gG 0 (⟨?_,a.s⟩);rw[n,Kk];cases m:HJ (AP [63] r)with
 | none=>rw[m]at b;have:=b.2;omega
 | some t =>
  cases u:HJ ((Xn [63] r).drop 1)with
  | none=>rw[u]at c;have:=c.2;omega
  | some q =>
   rw[m]at b;rw[u]at c;obtain⟨rfl,_⟩:=b;obtain⟨rfl,_⟩:=c;have x:(if p1=[]then[47]else Hi p1)=Hi p1:=Y3 (λe=>by rw[e]at g;simp[Hi]at g);show _=Value.tuple #[.agg #[S (low v),S (low (AP [47,63,35,58] f)),Ab (d:Nat),S (if p1=[]then[47]else Hi p1),S q1,.bool (!(Xn [63] r).isEmpty)],Ab 0]
   rw[x]
   done
theorem vz(s:Lu)(d:s.length<=1000000)(b:AX I)(N:La)(a:Aa B w I N):Ce B I N 317 [S s] w (.tuple #[S (nU s).1,Ab ((nU s).2:Nat)]):=by
 refine gE 3 (v_ s d b) ?_;intro w a;refine gG 8 ?_;intro e w a;refine gN 0 ?_ ?_<;>intro c
 ·refine gG 3 (⟨?_,a.s⟩);rw[nU,Y3 om]
  done
 refine gE 1 (vA _ (oQ s) b) ?_;intro w a;refine gG 2 (⟨?_,a.s⟩);rw[nU,Y9 om];rfl
end Go.Proofs.W9
namespace Xm
open Ul Pc Gk DN
abbrev Px:=Lu×Lu
def MK:List Px:=[([38],[38,97,109,112,59]),([60],[38,108,116,59]),([62],[38,103,116,59]),([34],[38,113,117,111,116,59]),([39],[38,35,51,57,59])]
def em(c:Ui):Lu:=if c=38 then[38,97,109,112,59]else if c=60 then[38,108,116,59]else if c=62 then[38,103,116,59]else if c=34 then[38,113,117,111,116,59]else if c=39 then[38,35,51,57,59]else[c]
def Ea(s:Lu):Lu:=s.flatMap em
def K4(c:Ui)(m s:Lu):Lu:=s.flatMap λx=>if x=c then m else[x]
theorem Xwm(c:Ui)(m a b:Lu):K4 c m (a++b)=K4 c m a++K4 c m b:=M6 ..
theorem x3{c:Ui}{m:Lu}:∀{s:Lu},(∀x∈s,x≠c)->K4 c m s=s
 | [],_=>rfl
 | x::s,h=>by
  show(if x=c then m else[x])++K4 c m s=x::s
  rw[Y3 (h x sz),x3 (λy a=>h y (by simp[a]))];rfl
theorem Xpq(c:Ui)(m:Lu):∀(n:Nat) (s:Lu),s.length<=n->Go.Lib.replaceK [c] m (Go.Lib.count s [c]) s=K4 c m s:=by
 intro n
 induction n with
 | zero =>
  intro s h
  have:s=[]:=Yi om
  subst this;have p:Go.Lib.count ([]:Lu) [c]=0:=Go.Lib.count_miss (by rw[Go.Lib.index_one];rfl);rw[p];rfl
 | succ n r =>
  intro s h;have q:=Go.Lib.indexByte_ge s c
  by_cases e:Go.Lib.indexByte s c=-1
  ·have hi:Go.Lib.index s [c]=-1:=by rw[Go.Lib.index_one];exact e
   rw[Go.Lib.count_miss hi];show s=K4 c m s
   refine(x3 λx hx b=>?_).symm;obtain⟨k,a⟩:=EA.1 hx;exact Go.Lib.indexByte_none e k (by rw[a,b])
  ·obtain⟨i,a⟩:∃k:Nat,Go.Lib.indexByte s c=k:=⟨(Go.Lib.indexByte s c).toNat,om⟩
   have hi:Go.Lib.index s [c]=i:=by rw[Go.Lib.index_one];exact a
   obtain⟨j,o⟩:=Go.Lib.indexByte_some a;have f:i<s.length:=(Y1.1 j).1;rw[Go.Lib.count_hit sz hi,Ku 1,Go.Lib.replaceK_hit _ _ _ _ i hi];show s.take i++m++Go.Lib.replaceK [c] m (Go.Lib.count (s.drop (i+1)) [c]) (s.drop (i+1))=_
   rw[r (s.drop (i+1)) (by rw[Y6];omega)];have l:s=s.take i++c::s.drop (i+1):=by
    conv=>lhs;rw[<-Fw i s]
    rw[Ym f,(Y1.1 j).2]
   conv=>rhs;rw[l,Xwm]
   have g:K4 c m (s.take i)=s.take i:=x3 λx hx b=>by
    obtain⟨k,a⟩:=EA.1 hx;rw[PO]at a;split at a
    ·rename_i d
     exact o k d (by rw[a,b])
    ·cases a
   rw[g,Yg]
   congr 1
   show _=(if c=c then m else[c])++K4 c m (s.drop (i+1))
   rw[Y9 O]
theorem Xtm(c:Ui)(m s:Lu)(h:([c]==m)=false):Go.Lib.replaceAll s [c] m=K4 c m s:=by
 unfold Go.Lib.replaceAll Go.Lib.replace Go.Lib.replaceNum;rw[h,Y3 de,Y9 (.inl de)];exact Xpq c m _ s (Ya _)
def Iu(s:Lu)(m:Px):Lu:=K4 (m.1.headD 0) m.2 s
theorem WR(m:Px)(a b:Lu):Iu (a++b) m=Iu a m++Iu b m:=Xwm ..
theorem Xv5:∀(l:List Px) (a b:Lu),l.foldl Iu (a++b)=l.foldl Iu a++l.foldl Iu b
 | [],a,b=>rfl
 | m::l,a,b=>by rw[Kt,Kt,Kt,WR,Xv5 l]
theorem Xv6:∀(l:List Px),l.foldl Iu []=[]
 | []=>rfl
 | m::l=>by rw[Kt];exact Xv6 l
theorem cF(c:Ui):MK.foldl Iu [c]=em c :=
 eq_of_beq (Xc (p:=λc=>MK.foldl Iu [c]==em c) dk c)
theorem Xv2:∀(s:Lu),MK.foldl Iu s=Ea s
 | []=>Xv6 MK
 | c::s=>by
  rw[show c::s=[c]++s from O,Xv5,cF,Xv2 s];rfl
theorem ki(c:Ui):(em c).length<=6:=by
 have:=Xc (p:=λc=>decide ((em c).length<=6)) dk c
 simpa using this
theorem oS:∀(s:Lu),(Ea s).length<=6*s.length
 | []=>Ya _
 | c::s=>by
  have a:=ki c;have b:=oS s;show(em c++Ea s).length<=_
  rw[Y0,Y5];omega
theorem Xwn(c:Ui)(m:Lu)(a:m.length<=6):∀(s:Lu),(K4 c m s).length<=6*s.length
 | []=>Ya _
 | x::s=>by
  have b:=Xwn c m a s;show((if x=c then m else[x])++K4 c m s).length<=_
  rw[Y0,Y5];split
  ·omega
  ·show 1+_<=_;omega
def tN(t:Lu):Option Px:=MK.find? λm=>Xl t m.2
def lB:Nat->List UInt8->Option (List UInt8)
 | 0,_=>some []
 | _+1,[]=>some []
 | f+1,c::r=>if c=38 then match tN (c::r)with
   | none=>none
   | some m=>(lB f (r.drop (m.2.length-1))).map (m.1++·)
  else(lB f r).map (c::·)
def ZF(s:Lu):Option Lu:=lB (s.length+1) s
theorem xC:∀(f g:Nat) (s:Lu),s.length<f->s.length<g->lB f s=lB g s
 | 0,_,_,h,_=>by omega
 | _+1,0,_,_,h=>by omega
 | f+1,g+1,[],_,_=>rfl
 | f+1,g+1,c::r,a,b=>by
  simp only[Y5]at a b
  simp only[lB]
  split
  ·cases d:tN (c::r)with
   | none=>rfl
   | some m =>
    simp only
    rw[xC f g (r.drop (m.2.length-1)) (by rw[Y6];omega) (by rw[Y6];omega)]
  ·rw[xC f g r om om]
theorem eM:ZF []=some []:=rfl
theorem YC(c:Ui)(r:Lu):ZF (c::r)=if c=38 then match tN (c::r)with
   | none=>none
   | some m=>(ZF (r.drop (m.2.length-1))).map (m.1++·)
  else(ZF r).map (c::·):=by
 unfold ZF;simp only[Y5,lB]
 split
 ·cases a:tN (c::r)with
  | none=>rfl
  | some m =>
   simp only
   rw[xC (r.length+1) ((r.drop (m.2.length-1)).length+1) (r.drop (m.2.length-1)) (by rw[Y6];omega) om]
 ·rfl
theorem Xql:∀(a b:Lu),(∀x∈a,x≠38)->ZF (a++b)=(ZF b).map (a++·)
 | [],b,_=>by simp
 | c::a,b,h=>by
  show ZF (c::(a++b))=_
  rw[YC,Y3 (h c sz),Xql a b (λx hx=>h x (by simp[hx]))];cases ZF b<;>rfl
def Tw:Lu:=[60,62,34,39]
def fT(s:Lu):Option Lu:=if s.any (λc=>Tw.contains c)=true then none else ZF s
theorem YD{s:Lu}(h:∀x∈s,x≠38/\x≠60/\x≠62/\x≠34/\x≠39):fT s=some s:=by
 unfold fT;rw[Y3,<-Yy s,Xql s [] (λx hx=>(h x hx).1),eM]
 ·simp
 ·rw[gh];rintro⟨x,hx,e⟩;obtain⟨_,a,b,c,d⟩:=h x hx;simp[Tw,a,b,c,d]at e
theorem ox:∀{s:Lu},(∀x∈s,x≠38/\x≠60/\x≠62/\x≠34/\x≠39)->Ea s=s
 | [],_=>rfl
 | c::s,h=>by
  obtain⟨a,b,d,e,f⟩:=h c sz;show em c++Ea s=c::s
  rw[ox (λx hx=>h x (by simp[hx])),em,Y3 a,Y3 b,Y3 d,Y3 e,Y3 f];rfl
def E9(c:Ui):Bool:=(97<=c&&c<=122)||(65<=c&&c<=90)
def HW(c:Ui):Bool:=E9 c||(48<=c&&c<=57)||c==58||c==45||c==95
def HI(s:Lu):Bool:=!(s==[])&&E9 (s.headD 0)&&s.all HW
def eC(c:Ui):Bool:=!(c==127||(c<32&&c !=9&&c !=10))
def TR(s:Lu):Bool:=s.all eC
def TM:List Px->List Px->Bool
 | _,[]=>true
 | done,a::r=>(HI a.1&&TR a.2&&!(done.any λb=>b.1==a.1))&&TM (done++[a]) r
inductive Nd where
 | mk (name:List UInt8) (attrs:List Px) (text:List UInt8) (kids:List Nd)
def Nd.name:Nd->Lu|.mk n _ _ _=>n
def Nd.attrs:Nd->List Px|.mk _ a _ _=>a
def Nd.text:Nd->Lu|.mk _ _ t _=>t
def Nd.kids:Nd->List Nd|.mk _ _ _ k=>k
def Kb(f:Int->Nd->Option Int):Int->List Nd->Option Int
 | left,[]=>some left
 | left,k::r=>match f left k with
  | none=>none
  | some l=>Kb f l r
def CD:Nat->Int->Nd->Option Int
 | 0,_,_=>none
 | d+1,left,n=>if left-1<0\/HI n.name=false\/TM [] n.attrs=false\/TR n.text=false\/(n.text≠[]/\n.kids≠[])then none else Kb (CD d) (left-1) n.kids
def G_(a:Px):Lu:=32::(a.1++[61,34]++Ea a.2++[34])
def Cb:Nat->Nd->List UInt8
 | 0,_=>[]
 | d+1,n=>60::n.name++(n.attrs.map G_).flatten++62::Ea n.text++(n.kids.map (Cb d)).flatten++60::47::n.name++[62]
def Kd:Nat->List UInt8->List Px->Option (List Px×List UInt8)
 | 0,_,_=>none
 | f+1,s,a=>if Xl s [32]=false then some (a,s)else if Xl (Xn [61] (s.drop 1)) [61,34]=false then none else match fT (AP [34] ((Xn [61] (s.drop 1)).drop 2))with
  | none=>none
  | some v=>if Xl (Xn [34] ((Xn [61] (s.drop 1)).drop 2)) [34]=false then none else Kd f ((Xn [34] ((Xn [61] (s.drop 1)).drop 2)).drop 1) (a++[(AP [61] (s.drop 1),v)])
def Jk(b:Int->List UInt8->Option (Nd×List UInt8×Int)):Nat->Int->List UInt8->List Nd->Option (List Nd×List UInt8×Int)
 | 0,_,_,_=>none
 | f+1,left,s,a=>if Xl s [60,47]=true then some (a,s,left)else match b left s with
  | none=>none
  | some (k,r,l)=>Jk b f l r (a++[k])
def Il:Nat->Int->List UInt8->Option (Nd×List UInt8×Int)
 | 0,_,_=>none
 | d+1,left,s=>if left-1<0\/Xl s [60]=false then none else match Kd ((Xn [32,62] (s.drop 1)).length+1) (Xn [32,62] (s.drop 1)) []with
  | none=>none
  | some (a,r)=>if Xl r [62]=false then none else match fT (AP [60] (r.drop 1))with
   | none=>none
   | some t=>match Jk (Il d) ((Xn [60] (r.drop 1)).length+1) (left-1) (Xn [60] (r.drop 1)) []with
    | none=>none
    | some (b,q,l)=>if Xl q (60::47::AP [32,62] (s.drop 1)++[62])=false then none else some (.mk (AP [32,62] (s.drop 1)) a t b,q.drop ((AP [32,62] (s.drop 1)).length+3),l)
theorem Og{s p:Lu}(h:Xl s p=true):p.length<=s.length:=by
 unfold Xl at h;simp only[Y8,dq1]at h
 omega
theorem Of(p r:Lu):Xl (p++r) p=true:=by
 unfold Xl;rw[Yd,T8]
 simp
 omega
theorem Xi5:∀(f:Nat) (s:Lu) (a:List Px) (b:List Px) (r:Lu),Kd f s a=some (b,r)->r.length<=s.length
 | 0,_,_,_,_,h=>by cases h
 | f+1,s,a,b,r,h=>by
  rw[Kd]at h;split at h
  ·cases h;exact Ya _
  ·split at h
   ·cases h
   ·split at h
    ·cases h
    ·split at h
     ·cases h
     ·have:=Xi5 f _ _ _ _ h
      have c:=Ih [34] ((Xn [61] (s.drop 1)).drop 2);have d:=Ih [61] (s.drop 1);simp only[Y6]at this c d
      omega
theorem Xov{d:Int->Lu->Option (Nd×Lu×Int)}(a:∀l s k r c,d l s=some (k,r,c)->r.length<s.length):∀(f:Nat) (left:Int) (s:Lu) (b e:List Nd) (r:Lu) (c:Int),Jk d f left s b=some (e,r,c)->r.length<=s.length
 | 0,_,_,_,_,_,_,h=>by cases h
 | f+1,left,s,b,e,r,c,h=>by
  rw[Jk]at h;split at h
  ·cases h;exact Ya _
  ·split at h
   ·cases h
   ·rename_i k j i g
    have:=a _ _ _ _ _ g
    have:=Xov a f _ _ _ _ _ _ h
    omega
theorem wy:∀(d:Nat) (left:Int) (s:Lu) (k:Nd) (r:Lu) (b:Int),Il d left s=some (k,r,b)->r.length<s.length
 | 0,_,_,_,_,_,h=>by cases h
 | d+1,left,s,k,r,b,h=>by
  rw[Il]at h;split at h
  ·cases h
  ·rename_i a
   simp only[not_or,yo]at a
   have o:=Og a.2;split at h
   ·cases h
   ·rename_i n f c
    split at h
    ·cases h
    ·split at h
     ·cases h
     ·split at h
      ·cases h
      ·rename_i p q l e
       split at h
       ·cases h
       ·cases h
        have g:=Xi5 _ _ _ _ _ c;have i:=Xov (λ_ _ _ _ _ h=>wy d _ _ _ _ _ h) _ _ _ _ _ _ _ e;have j:=Ih [60] (f.drop 1);have m:=Ih [32,62] (s.drop 1);simp only[Y6,Y5,Yh]at *
        omega
theorem Xeu:∀(f g:Nat) (s:Lu) (a:List Px),s.length<f->s.length<g->Kd f s a=Kd g s a
 | 0,_,_,_,h,_=>by omega
 | _+1,0,_,_,_,h=>by omega
 | f+1,g+1,s,a,i,j=>by
  rw[Kd,Kd];split
  ·rfl
  ·rename_i b
   have e:=Og (yo _▸b);split
   ·rfl
   ·split
    ·rfl
    ·split
     ·rfl
     ·have c:=Ih [34] ((Xn [61] (s.drop 1)).drop 2);have d:=Ih [61] (s.drop 1);simp only[Y6,Y5,Yh]at *
      exact Xeu f g _ _ (by simp only[Y6];omega) (by simp only[Y6];omega)
end Xm
namespace Gk
open Go
structure Hy{β:Type}(D:TypeDesc)(K:β->Va):Prop where
 is:∀b,MapKept.IsKey D (K b)
 inj:∀a b,K a=K b->a=b
theorem CJ:Hy .string S:=⟨λ_=>trivial,λa b h=>by injection h with h;injection h with h;injection h⟩
theorem Ko:Hy (.int .i64) Ab:=⟨λ_=>rfl,λa b h=>by injection h⟩
def HX(K:β->Va)(b:List (β×Va))(a:Array MapEntry):Prop:=a.toList.map (λe=>(e.key,e.val))=b.map λp=>(K p.1,p.2)
def K3(K:β->Va)(b:Nat)(d:List (β×Va)):X1:=λh=>∃c a,HX K d c/\h=[(b,.map c a)]
def KD(I:Im)(K:β->Va)(b:Nat)(d:List (β×Va)):Prop:=∃c a,HX K d c/\I b=some (.map c a)
theorem KD.mono{K:β->Va}{kv:List (β×Va)}(h:KD I K b kv)(f:Le I J):KD J K b kv:=by
 obtain⟨c,a,d,e⟩:=h;exact⟨c,a,d,f.h _ _ e⟩
section
variable {P:Program} {n:Nat} {K':Bk} {L:AB} {w B:Wo} {ops:Array Oper} {rest:List Oper} {I:Im} {N:La} {β:Type} {K:β->Va} {D:TypeDesc} {kv:List (β×Va)} {k b:Nat} {t kt et ty:TypeId} {x y z:Operand} {pos:String} {af:Array Edge} {d:Nat} {g:Option (Nat×Bool)}
theorem vN[BEq β][LawfulBEq β](f:Hy D K)(key:β):∀(a:List (β×Va)) (c:List MapEntry) (i:Nat),c.map (λe=>(e.key,e.val))=a.map (λp=>(K p.1,p.2))->
  (a.lookup key=none/\Instr.findNow D (K key) c i=some none)\/∃j v,a.lookup key=some v/\Instr.findNow D (K key) c i=some (some (j,v))
 | [],[],_,_=>.inl ⟨O,O⟩
 | [],e::c,_,h=>by simp at h
 | p::a,[],_,h=>by simp at h
 | p::a,e::c,i,h=>by
  simp only[Yu,List.cons.injEq,Prod.mk.injEq]at h
  obtain⟨⟨k,n⟩,o⟩:=h;have s:MapKept.IsKey D e.key:=k▸f.is _;obtain⟨r,l,hi⟩:=MapKept.sameNow_of_keys (f.is key) s;cases r with
  | true =>
   have b:=f.inj _ _ ((hi.1 O).trans k);exact .inr ⟨i,p.2,by obtain⟨t,u⟩:=p;simp only at b;subst b;simp[List.lookup,beq_self_eq_true],by simp[Instr.findNow,l,n]⟩
  | false =>
   have d:key≠p.1:=λq=>by have:=hi.2 (by rw[k,q]);cases this
   have m:(p::a).lookup key=a.lookup key:=by obtain⟨t,u⟩:=p;simp only at d;simp[List.lookup,beq_eq_false_iff_ne.2 d]
   rcases vN f key a c (i+1) o with⟨b,g⟩|⟨j,v,b,g⟩
   ·exact .inl ⟨by rw[m];exact b,by simp[Instr.findNow,l,g]⟩
   ·exact .inr ⟨j,v,by rw[m];exact b,by simp[Instr.findNow,l,g]⟩
theorem Xgk[BEq β][LawfulBEq β]{ty:TypeId}{b:Nat}{a:Array MapEntry}{c:Nat}{z:Va}(g:Hy D K)(h:w.heap[b]?=some (.map a c))(l:HX K kv a)(key:β)(k:P.underlying t=some (.map kt et))(f:P.underlying kt=some D)(m:∀w,(zeroValue et).run P w=.ok z w)(ok:Bool):(Instr.lookup t (.map (some b)) (K key) ok).run P w=.ok (if ok then .tuple #[(kv.lookup key).getD z,.bool (kv.lookup key).isSome]else(kv.lookup key).getD z) w:=by
 have i:(Instr.checkKey a.isEmpty 10000 kt (K key)).run P w=.ok () w:=MapKept.run_checkKey f (g.is key) _ 9999;rcases vN g key kv a.toList 0 l with⟨d,e⟩|⟨j,v,d,e⟩
 ·simp[Instr.lookup,run_underlying k,MapKept.run_getObj_map h,i,MapKept.run_findKey f e,d,m,Result.andThen]
 ·simp[Instr.lookup,run_underlying k,MapKept.run_getObj_map h,i,MapKept.run_findKey f e,d,Result.andThen]
theorem Aa.LM(d:Aa B w I N)(h:N[k]?=some (K3 K b kv)):∃c a,HX K kv c/\w.heap[b]?=some (.map c a):=by
 obtain⟨g,j,f⟩:=d;obtain⟨l,m,i,⟨c,a,e,rfl⟩,_⟩:=j.at_ h;exact⟨c,a,e,(f.perm i).own b _ sz⟩
theorem KD.now(h:KD I K b kv)(f:Aa B w I N):∃c a,HX K kv c/\w.heap[b]?=some (.map c a):=by
 obtain⟨c,a,d,e⟩:=h;obtain⟨g,j,i⟩:=f;exact⟨c,a,d,i.GN _ _ e⟩
theorem Ex.VP[BEq β][LawfulBEq β]{d:Option Nat}{z:Va}{key:β}(i:Hy D K)(m:∃e c,HX K kv e/\w.heap[b]?=some (.map e c))(hx:Ev n L x (.map (some b)))(p:Ev n L y (K key))(o:P.underlying t=some (.map kt et))(l:P.underlying kt=some D)(q:∀w,(zeroValue et).run P w=.ok z w):Ex P n L w ⟨d,.lookup t x y true,ty,pos,af,g⟩ (.tuple #[(kv.lookup key).getD z,.bool (kv.lookup key).isSome]) w:=λa f=>by
 obtain⟨e,c,k,j⟩:=m;have h:=Xgk (ty:=ty) i j k key o l q true;simp[execOp,hx a f,p a f,h]
theorem Ex.N0[BEq β][LawfulBEq β]{d:Option Nat}{z:Va}{key:β}(i:Hy D K)(m:∃e c,HX K kv e/\w.heap[b]?=some (.map e c))(hx:Ev n L x (.map (some b)))(p:Ev n L y (K key))(o:P.underlying t=some (.map kt et))(l:P.underlying kt=some D)(q:∀w,(zeroValue et).run P w=.ok z w):Ex P n L w ⟨d,.lookup t x y false,ty,pos,af,g⟩ ((kv.lookup key).getD z) w:=λa f=>by
 obtain⟨e,c,k,j⟩:=m;have h:=Xgk (ty:=ty) i j k key o l q false;simp[execOp,hx a f,p a f,h]
theorem WL.mkMap(K:β->Va)(e:Aa B w I N)(f:Nat.blt d n=true)(h:∀b w',Aa B w' I (K3 K b []::N)->WL P n ops K' rest ((d,.map (some b))::L) w'):WL P n ops K' (⟨some d,.makeMap t none,ty,pos,af,none⟩::rest) L w:=by
 have c:Aa B (w.alloc (.map #[] 0)) I (K3 K w.heap.size []::N):=(e.alloc (.map #[] 0)).say (k:=0) O λg i=>⟨#[],0,O,i⟩
 refine .val (λa l=>?_) f (h _ _ c);have j:=run_makeMap_plain (P:=P) w t;simp[execOp,j]
theorem Xw0[BEq β][LawfulBEq β]{val:Va}{key:β}(y:Hy D K)(F:Aa B w I N)(z:N[k]?=some (K3 K b kv))(s:kv.lookup key=none)(J:P.underlying t=some (.map kt et))(f:P.underlying kt=some D):∃w',(Instr.mapUpdate t (.map (some b)) (K key) val).run P w=.ok () w'/\Aa B w' I (N.set k (K3 K b (kv++[(key,val)]))):=by
 obtain⟨g,H,m⟩:=F;obtain⟨M,Q,C,⟨d,a,q,rfl⟩,i,_⟩:=H.at_ z;have l:=(m.perm C).own b (.map d a) sz;have p:(Instr.checkKey false 10000 kt (K key)).run P w=.ok () w:=MapKept.run_checkKey f (y.is key) _ 9999;have G:Instr.findNow D (K key) d.toList 0=some none:=by
  rcases vN y key kv d.toList 0 q with⟨_,h⟩|⟨j,v,h,_⟩
  ·exact h
  ·rw[s]at h;cases h
 refine⟨{ w with heap:=w.heap.setIfInBounds b (.map (d.push { key:=K key,val:=val,born:=a }) (a+1)) },?_,?_⟩
 ·simp[Instr.mapUpdate,run_underlying J,MapKept.run_getObj_map l,p,MapKept.run_findKey f G,MapKept.run_setObj_map _ l,Result.andThen]
 ·-- the block is written
  have n:Aa B w I (N.set k (own b (.map d a))):=by
   obtain⟨E,x,u⟩:=i (own b (.map d a)) [(b,.map d a)] O;exact⟨E,x,m.perm (C.trans u.symm)⟩
  have e:k<N.length:=(Y1.1 z).1;have L:=n.write (k:=k) (o:=.map d a) (w':={ w with heap:=w.heap.setIfInBounds b (.map (d.push { key:=K key,val:=val,born:=a }) (a+1)) }) (o':=.map (d.push { key:=K key,val:=val,born:=a }) (a+1)) (by simp[e]) O O O (MapKept.heap_set l).1 (λc p=>(MapKept.heap_set l).2 c p);have r:=L.say (k:=k) (A:=own b (.map (d.push { key:=K key,val:=val,born:=a }) (a+1))) (A':=K3 K b (kv++[(key,val)])) (by simp[e]) λg m=>⟨_,_,by
   unfold HX at q ⊢;rw[nF,Yn,Yn,q];rfl,m⟩
  simpa using r
theorem WL.Ac4[BEq β][LawfulBEq β]{val:Va}{key:β}(g:Hy D K)(i:Aa B w I N)(j:N[k]?=some (K3 K b kv))(hx:Ev n L x (.map (some b)))(o:Ev n L y (K key))(p:Ev n L z val)(f:kv.lookup key=none)(m:P.underlying t=some (.map kt et))(e:P.underlying kt=some D)
  (h:∀w',Aa B w' I (N.set k (K3 K b (kv++[(key,val)])))->WL P n ops K' rest L w'):WL P n ops K' (⟨none,.mapUpdate t x y z,ty,pos,af,none⟩::rest) L w:=by
 obtain⟨w',l,c⟩:=Xw0 g i j f m e;refine .st (w':=w') (λa d=>?_) (h _ c);simp[execOp,hx a d,o a d,p a d,l]
theorem WL.B6[BEq β][LawfulBEq β]{val:Va}{key:β}(g:Hy D K)(i:Aa B w I N)(j:N[k]?=some (K3 K b kv))(hx:Ev n L x (.map (some b)))(o:Ev n L y (K key))(p:Ev n L z val)(f:kv.lookup key=none)(m:P.underlying t=some (.map kt et))(e:P.underlying kt=some D)
  (h:∀w',Aa B w' I (N.set k (K3 K b (kv++[(key,val)])))->WL P n ops K' rest L w'):WL P n ops K' (⟨none,.insert t x y z,ty,pos,af,none⟩::rest) L w:=by
 obtain⟨w',l,c⟩:=Xw0 g i j f m e;refine .st (w':=w') (λa d=>?_) (h _ c);simp[execOp,hx a d,o a d,p a d,l]
theorem Aa.Ho(m:Aa B w I N)(i:N[k]?=some (K3 K b kv)):∃J,Le I J/\KD J K b kv/\Aa B w J (N.eraseIdx k):=by
 have f:k<N.length:=(Y1.1 i).1;obtain⟨⟨⟨c,a⟩,e⟩,d⟩:=m.opened (X:={ x:Array MapEntry×Nat // HX K kv x.1 }) (T:=λx=>own b (.map x.1.1 x.1.2)) i λg n=>by
  obtain⟨c,a,e,rfl⟩:=n;exact⟨⟨(c,a),e⟩,O⟩
 obtain⟨J,j,l,h⟩:=d.freeze (k:=k) (b:=b) (o:=.map c a) (by simp[f]);rw[nz]at h;exact⟨J,j,⟨c,a,e,l⟩,h⟩
end
open Go.RowKit Go.WideShapes Go.ChangeShapes
def EV(W:Wo):Im:=λb=>W.heap[b]?
theorem Ado(W:Wo):Aa W W (EV W) []:=⟨[],O,O,O,O,λ_ _ h=>h,λ_ _ h=>by simp at h,List.nodup_nil,λ_ _ h=>by simp at h⟩
theorem Aa.below{W:Wo}(e:Aa W w I N)(f:Le (EV W) I):Below W.heap.size W w:=by
 obtain⟨h,_,g⟩:=e;have b:∀k,k<W.heap.size->w.heap[k]?=W.heap[k]?:=λk c=>by
  rw[Iv c];exact g.GN k _ (f.h k _ (Iv c))
 refine⟨g.os,g.tape,g.output,?_,b⟩;rcases Ix W.heap.size with d|d
 ·omega
 ·have a:=b (W.heap.size-1) om;rw[Iv (show W.heap.size-1<W.heap.size by omega)]at a
  have:=(Jo.1 a).1
  omega
theorem nR{Aq:TypeId×Va->H}{f:Func}{s:ChangeSpec}{c e d:Bool}{W W':Wo}{args:Array Va}{ds j:List (DataW H)}{a pa n:List MemPlace}
  (o:DataW.Whole Aq P f.params.toList s.vars c W args.toList ds j a) (q:Below W.heap.size W W')
  (k:∀(b:Nat) (t:Nat->Bool) (r:Bool),DataW.TrodAll Aq P W' b t r f.resultTypes.toList (v.resultList f.resultTypes.size) (s.fn H (ds++j)).results [])
  (g:DataW.TrodAll Aq P W' 0 (λb=>decide (b<W.heap.size)) true f.params.toList args.toList (s.fn H (ds++j)).args pa)
  (i:DataW.TrodVars Aq P W' (λb=>decide (b<W.heap.size)) s.vars (s.fn H (ds++j)).vars n) (m:a=pa++n) :s.post Aq P f c e d false W args v W':=by
 refine⟨ds,j,a,[],pa,n,o,k _ _ _,g,i,World.keptBut_mono (λp l=>⟨l,?_⟩) (q.frame (·∈a)),λh=>(by cases h)⟩;rw[m,Ys]at l;exact Or.inr l
theorem r8{c:Nat}:∀(L:List Lv),(∀l∈L,l.length=c)->L.flatten.length=L.length*c
 | [],_=>by simp
 | a::L,h=>by
  rw[Fx,Y0,r8 L (λl b=>h l (by simp[b])),h a sz,Y5,Sn,Ku]
theorem oB{c:Nat}:∀(L:List Lv),(∀l∈L,l.length=c)->∀(i r:Nat),r<c->L.flatten[i*c+r]?=(L[i]?).bind (·[r]?)
 | [],_,i,r,_=>by simp
 | a::L,h,0,r,b=>by
  have d:=h a sz;rw[Fx,PT,Yk,Ye om];rfl
 | a::L,h,i+1,r,b=>by
  have d:=h a sz;rw[Fx,Sn,Yw om,show i*c+c+r-a.length=i*c+r by omega,oB L (λl e=>h l (by simp[e])) i r b];rfl
theorem ZY{c:Nat}:∀(L:List Lv),(∀l∈L,l.length=c)->∀(i:Nat) (l:Lv),L[i]?=some l->(L.flatten.drop (i*c)).take c=l
 | [],_,i,l,h=>by simp at h
 | a::L,h,0,l,b=>by
  have d:=h a sz;simp at b
  subst b;rw[Fx,PT,FY,<-d,T8]
 | a::L,h,i+1,l,b=>by
  have d:=h a sz;rw[Fx,Sn,Ku,<-d,<-Gj,pO,d];exact ZY L (λl b=>h l (by simp[b])) i l (su b)
section
variable {H:Type} {Aq:TypeId×Va->H} {P:Program} {W:Wo} {spare:Nat->Bool} {held:Bool}
theorem Xnk{c:Nat}{a:Addr}(h:W.cells? c a n=some vs):vs.length=n/\∀i,i<n->W.cell? (a.add i)=vs[i]?:=by
 unfold World.cells? at h;split at h
 ·have d:=Go.Lib.mapM_length h;rw[List.length_range]at d;refine⟨d,λi hi=>?_⟩;obtain⟨b,e,f⟩:=Go.Lib.mapM_at h i i (List.getElem?_range hi);rw[e,f]
 ·cases h
theorem tB{a:Addr}(l:0<xs.length)(h:∀j v,xs[j]?=some v->W.cell? (a.add j)=some v):At (EV W) a xs:=by
 obtain⟨d,ao,n⟩:=a;have c:=h 0 xs[0] (Y2 l);have m:n=none:=by simpa[Addr.add]using World.cell?_spot c
 subst m;have e:∀j,(⟨d,ao,none⟩:Addr).add j=⟨d,ao+j,none⟩:=CY d ao;rw[e]at c;unfold World.cell? at c;split at c
 ·rename_i f E i g
  refine⟨O,f,E,i,g,λj v k=>?_⟩;have b:=h j v k;rw[e]at b;unfold World.cell? at b;dsimp only at g
  rw[g]at b;simpa using b
 ·cases c
theorem r4{t e:Nat}{x:DataW H×List MemPlace}(K:P.underlying t=some (.slice e))(F:P.cellsOf e=c)(r:0<c)(h:DataW.trod Aq P W 0 spare held fuel t cs=some x):∃(a:Oa) (cap:Nat) (L:List Lv) (n:Nat),cs=[.slice a L.length cap]/\L.length<=cap/\cap<=maxLen/\(∀l∈L,l.length=c)/\RS (EV W) a c L.length L.flatten/\∀l∈L,∃y,DataW.trod Aq P W 0 spare held n e l=some y:=by
 rcases DataW.trod_slice K h with⟨rfl,_⟩|⟨a,len,cap,u,rest,n,_,rfl,_,_,k,G,C,s,_,_⟩
 ·exact⟨none,0,[],0,O,Ya _,Y4 _,λ_ h=>by simp at h,RS.nil _ _,λ_ h=>by simp at h⟩
 ·rw[F]at s;have o:∀i,i<len->∃l,W.cells? 0 (a.add (i*c)) c=some l/\∃y,DataW.trod Aq P W 0 spare held n e l=some y:=λi hi=>by
   have p:=s i hi;rw[Y2 om]at p;obtain⟨l,q,E⟩:=fW.1 p;exact⟨l,q,_,E⟩
  let L:=(List.range len).map λi=>(W.cells? 0 (a.add (i*c)) c).getD []
  have w:∀i,i<len->∃l,L[i]?=some l/\W.cells? 0 (a.add (i*c)) c=some l/\∃y,DataW.trod Aq P W 0 spare held n e l=some y:=λi hi=>by
   obtain⟨l,p,q⟩:=o i hi;refine⟨l,?_,p,q⟩;simp only[L,Yr,List.getElem?_range hi,gn,p,gj]
  have g:L.length=len:=by simp[L]
  have d:∀l∈L,∃i,i<len/\L[i]?=some l:=λl k=>by
   obtain⟨i,hi⟩:=EA.1 k;exact⟨i,by have:=(Y1.1 hi).1;omega,hi⟩
  have b:∀l∈L,l.length=c:=λl k=>by
   obtain⟨i,hi,m⟩:=d l k;obtain⟨M,f,q,_⟩:=w i hi;rw[m]at f;cases f;exact(Xnk q).1
  refine⟨some a,cap,L,n,by rw[g],by rw[g];exact k,G,b,⟨r8 L b,λI=>⟨a,O,tB ?_ λj v z=>?_⟩⟩,λl k=>?_⟩
  ·rw[r8 L b];exact Nat.mul_pos I r
  ·have A:j<L.length*c:=by rw[<-r8 L b];exact(Y1.1 z).1
   have J:j/c<len:=by rw[<-g];exact yj (by rw[FZ];exact A)
   have D:j%c<c:=T_ _ r;have B:j=j/c*c+j%c:=by rw[FZ];exact(nL j c).symm
   obtain⟨l,m,f,_⟩:=w (j/c) J;rw[B,oB L b _ _ D,m]at z
   have:=(Xnk f).2 (j%c) D
   rw[B,show a.add (j/c*c+j%c)=(a.add (j/c*c)).add (j%c)by rw[Addr.add_add]];rw[this];exact z
  ·obtain⟨i,hi,m⟩:=d l k;obtain⟨M,f,_,y⟩:=w i hi;rw[m]at f;cases f;exact y
theorem Xz8{t e:Nat}{x:DataW H×List MemPlace}(r:P.underlying t=some (.slice e))(q:P.underlying e=some .string)(p:P.cellsOf e=1)(h:DataW.trod Aq P W 0 spare held fuel t cs=some x):∃(a:Oa) (cap:Nat) (l:List Lu),cs=[.slice a l.length cap]/\l.length<=cap/\cap<=maxLen/\RS (EV W) a 1 l.length (l.map S)/\∀s∈l,s.length<=maxLen:=by
 obtain⟨a,cap,L,n,rfl,k,m,A,j,o⟩:=r4 r p de h;have c:∀l∈L,∃s:ByteArray,l=[.string s]/\s.size<=maxLen:=λl g=>by
  obtain⟨y,w⟩:=o l g;obtain⟨s,rfl,_,i⟩:=DataW.trod_string q w;exact⟨s,O,i⟩
 have key:∀L:List Lv,(∀l∈L,∃s:ByteArray,l=[.string s]/\s.size<=maxLen)->∃ts:List Lu,ts.length=L.length/\L.flatten=ts.map S/\∀s∈ts,s.length<=maxLen:=by
  intro L
  induction L with
  | nil=>intro _;exact⟨[],O,O,λ_ h=>by simp at h⟩
  | cons l L z =>
   intro h;obtain⟨s,rfl,i⟩:=h l sz;obtain⟨ts,b,d,f⟩:=z (λl g=>h l (by simp[g]));refine⟨s.data.toList::ts,by simp[b],?_,λu v=>?_⟩
   ·rw[Fx,d];rfl
   ·rcases Yp.1 v with e|e
    ·subst e;exact i
    ·exact f u e
 obtain⟨ts,b,d,f⟩:=key L c;rw[d,<-b]at j;exact⟨a,cap,ts,by rw[b],by rw[b];exact k,m,j,f⟩
end
def X2(cells:α->Lv)(l:List α):Lv:=(l.map cells).flatten
theorem R0{α:Type}{cells:α->Lv}{s:Nat}(a:∀x,(cells x).length=s):∀l:List α,(X2 cells l).length=l.length*s
 | []=>by simp[X2]
 | x::l=>by
  have:=R0 a l
  unfold X2 at this ⊢;rw[Yu,Fx,Y0,this,a,Y5,F0];omega
theorem l0{cells:α->Lv}{s:Nat}(d:∀x,(cells x).length=s){l:List α}{j:Nat}{r:α}(f:l[i]?=some r)(e:(cells r)[j]?=some v):(X2 cells l)[i*s+j]?=some v:=by
 have a:j<s:=by rw[<-d r];exact(Y1.1 e).1
 have b:=oB (l.map cells) (λc h=>by obtain⟨x,_,rfl⟩:=Dt.1 h;exact d x) i j a;rw[Yr,f]at b;exact b.trans e
theorem KP(cells:α->Lv)(l:List α)(x:α):X2 cells (l++[x])=X2 cells l++cells x:=by simp[X2]
def Jg(w:Wo)(cells:α->Lv)(s:Nat)(a:Oa)(l:List α):Prop:=∀(i:Nat) (r:α),l[i]?=some r->∃p,a=some p/\∀(j:Nat) v,(cells r)[j]?=some v->w.cell? ((p.add (i*s)).add j)=some v
section
variable {P:Program} {n:Nat} {K:Bk} {L:AB} {w B:Wo} {ops:Array Oper} {rest:List Oper} {I:Im} {N:La} {k:Nat} {ty t t' E:TypeId} {x y:Operand} {pos:String} {af:Array Edge} {g:Option (Nat×Bool)} {v:Va}
theorem R3{cells:α->Lv}{s:Nat}{l:List α}(f:∀x,(cells x).length=s)(e:Aa B w I N)(d:RS I a s l.length (X2 cells l)):Jg w cells s a l:=λi r b=>by
 obtain⟨p,rfl,c⟩:=d.2 (oh ((Y1.1 b).1));refine⟨p,O,λj v g=>?_⟩;rw[Addr.add_add];exact Xv e c (l0 f b g)
theorem WZ{cells:α->Lv}{s T:Nat}{l:List α}(p:∀x,(cells x).length=s)(n:Aa B w I N)(h:N[k]?=some (An T s (.slice a l.length cap) l.length (X2 cells l))):Jg w cells s a l:=λi r m=>by
 have hi:=(Y1.1 m).1;obtain⟨g,e,rest,t,_,_,_,_,b⟩:=n.AF h om;injection t with d u y
 have c:k<N.length:=(Y1.1 h).1;have o:w.heap[g]?=some (Xh (X2 cells l++rest) T):=b.block (k:=k) (by simp[c,Ac]);refine⟨⟨g,0,none⟩,d,λj v q=>?_⟩;rw[Addr.add_add,show(⟨g,0,none⟩:Addr).add (i*s+j)=ad g (0+(i*s+j)) from CY g 0 _,Yk];refine Xz o ?_;have f:=l0 p m q;rw[Ye (Y1.1 f).1];exact f
theorem Ex.IA{s:Nat}(hx:Ev n L x (.pointer (some p)))(i:∀(j:Nat) v,vs[j]?=some v->w.cell? (p.add j)=some v)(f:∀w,(isAgg t).run P w=.ok true w)(e:∀w,(Go.sizeOf t).run P w=.ok s w)
  (c:vs.length=s):Ex P n L w ⟨d,.load t x,ty,pos,af,g⟩ (.agg vs.toArray) w:=λa b=>by
 have h:=run_loadCells_list (P:=P) w p vs i;rw[c]at h;simp[execOp,hx a b,Instr.loadAt,Instr.sureAddr,loadVar,f,e,h]
theorem Ex.ld1{v:Va}(hx:Ev n L x (.pointer (some p)))(e:w.cell? p=some v)(c:∀w,(isAgg t).run P w=.ok false w):Ex P n L w ⟨d,.load t x,ty,pos,af,g⟩ v w:=λa b=>by
 simp[execOp,hx a b,Instr.loadAt,Instr.sureAddr,loadVar,c,load,Sem.run,e]
theorem WL.Bz{d E:Nat}{v:Va}{r:Lv}{i:TypeInfo}{z:Va}(o:Aa B w I N)(hx:Ev n L x v)(R:Ev n L y (.slice a m c))(j:RS I a size m r)
  (D:N[k]?=some (An E size v nn xs)) (Q:P.underlying t=some (.slice E)) (hi:P.info? E=some i) (W:i.zero=some z) (b:i.size=size) (A:i.bytes=bytes) (H:z.cells.size=size)
  (S:r.all Value.oneCell'=true) (f:(nn+m)*bytes<=140737488355328/\nn+m<=maxLen) (M:Nat.blt d n=true)
  (h:∀J w',Aa B w' I (N.set k (An E size J (nn+m) (xs++r)))->WL P n ops K rest ((d,J)::L) w') :WL P n ops K (⟨some d,.call ⟨.builtin .append,#[x,y],#[t,t]⟩,ty,pos,af,none⟩::rest) L w:=by
 rcases Ix m with l|l
 ·subst l;have G:r=[]:=Yi (su j.1);subst G;obtain⟨a0,c0,rfl,C,_⟩:=o.AG D;have j:(Builtin.append_ #[t,t] ty #[.slice a0 nn c0,.slice a 0 c]).run P w=.ok (.slice a0 nn c0) w:=by
   subst b;cases a0<;>cases a<;>simp[Builtin.append_,run_underlying Q,Go.sizeOf,typeInfo,hi,Builtin.lenOf,Builtin.firstCells,loadCells,loadCellsFrom,storeCells,C]
  have T:=h (.slice a0 nn c0) w (by
   have:N.set k (An E size (.slice a0 nn c0) (nn+0) (xs++[]))=N:=by
    rw[ER,Yy]
    have:=(Y1.1 D).2
    rw[<-this,jz]
   rw[this];exact o)
  exact WL.val (w':=w) (λe g=>by simp[execOp,resolve,invoke,builtin,hx e g,R e g,j]) M T
 ·obtain⟨p,rfl,U⟩:=j.2 l;obtain⟨J,w',F,s⟩:=u3 (P:=P) (ty:=ty) o Q hi W b A H D (p:=p) (m:=m) (c:=c) j.1 l (λq u V=>Xv o U V) (Dj.1 S) f.2 f.1
  exact WL.val (w':=w') (λe g=>by simp[execOp,resolve,invoke,builtin,hx e g,R e g,F]) M (h _ _ s)
theorem Ex.km{f:Nat}{v:Va}(hx:Ev n L x (.agg cs.toArray))(i:P.underlying t=some (.struct fs))(c:fs[f]?=some fd)(e:fd.offset=off)(h:∀w,(isAgg fd.type).run P w=.ok false w)(j:cs[off]?=some v):Ex P n L w ⟨d,.field t x f,ty,pos,af,g⟩ v w:=λa b=>by
 subst e;simp[execOp,hx a b,Instr.field,run_underlying i,c,asAgg,part,h,j]
theorem Ex.orI{a:Nat}(f:a<9223372036854775808)(h:b<9223372036854775808)(hx:Ev n L x (Ab a))(k:Ev n L y (Ab b)):Ex P n L w ⟨d,.binOp .or t x y t',ty,pos,af,g⟩ (Ab ((a||| b:Nat):Int)) w :=
 CV hx k (Xj _ _ _ _) (by
  have l:a||| b<9223372036854775808:=yt (n:=63) f h;have e:∀c:Nat,c<9223372036854775808->(BitVec.ofInt 64 (c:Int)).toNat=c:=λc m=>by rw[BitVec.ofInt_natCast,BitVec.toNat_ofNat];exact jI om
  have i:(BitVec.ofInt IntKind.i64.bits (a:Int)||| BitVec.ofInt IntKind.i64.bits (b:Int)).toNat=a||| b:=by
   show(BitVec.ofInt 64 (a:Int)||| BitVec.ofInt 64 (b:Int)).toNat=a||| b
   rw[BitVec.toNat_or,e a f,e b h]
  have j:IntKind.i64.wrap ((a||| b:Nat):Int)=((a||| b:Nat):Int):=by rw[IntKind.wrap_i64];omega
  show(Op.intBits .or .i64 a b).run P w=_
  unfold Op.intBits;simp only[i,j,Sem.run_pure])
theorem Ex.Adm{a:Nat}(f:a<9223372036854775808)(h:b<9223372036854775808)(hx:Ev n L x (Ab a))(k:Ev n L y (Ab b)):Ex P n L w ⟨d,.binOp .xor t x y t',ty,pos,af,g⟩ (Ab ((a^^^b:Nat):Int)) w :=
 CV hx k (Xj _ _ _ _) (by
  have l:a^^^b<9223372036854775808:=Nat.xor_lt_two_pow (n:=63) f h;have e:∀c:Nat,c<9223372036854775808->(BitVec.ofInt 64 (c:Int)).toNat=c:=λc m=>by rw[BitVec.ofInt_natCast,BitVec.toNat_ofNat];exact jI om
  have i:(BitVec.ofInt IntKind.i64.bits (a:Int)^^^BitVec.ofInt IntKind.i64.bits (b:Int)).toNat=a^^^b:=by
   show(BitVec.ofInt 64 (a:Int)^^^BitVec.ofInt 64 (b:Int)).toNat=a^^^b
   rw[BitVec.toNat_xor,e a f,e b h]
  have j:IntKind.i64.wrap ((a^^^b:Nat):Int)=((a^^^b:Nat):Int):=by rw[IntKind.wrap_i64];omega
  show(Op.intBits .xor .i64 a b).run P w=_
  unfold Op.intBits;simp only[i,j,Sem.run_pure])
theorem Ex.Adl{a b:Ui}(hx:Ev n L x (U8 a.toNat))(i:Ev n L y (U8 b.toNat)):Ex P n L w ⟨d,.binOp .xor t x y t',ty,pos,af,g⟩ (U8 ((a^^^b).toNat:Int)) w :=
 CV hx i (Xj _ _ _ _) (by
  have e:∀c:Ui,(BitVec.ofInt 8 (c.toNat:Int)).toNat=c.toNat:=λc=>by rw[BitVec.ofInt_natCast,BitVec.toNat_ofNat];exact jI c.toNat_lt
  have f:(BitVec.ofInt IntKind.u8.bits (a.toNat:Int)^^^BitVec.ofInt IntKind.u8.bits (b.toNat:Int)).toNat=(a^^^b).toNat:=by
   show(BitVec.ofInt 8 (a.toNat:Int)^^^BitVec.ofInt 8 (b.toNat:Int)).toNat=_
   rw[BitVec.toNat_xor,e a,e b,UInt8.toNat_xor]
  have j:=(a^^^b).toNat_lt;have h:IntKind.u8.wrap ((a^^^b).toNat:Int)=((a^^^b).toNat:Int):=by rw[IntKind.wrap_u8];omega
  show(Op.intBits .xor .u8 a.toNat b.toNat).run P w=_
  unfold Op.intBits;simp only[f,h,Sem.run_pure])
end
end Gk
namespace Tk
open Pc Gk Ul
def pre:Nat->List UInt8
 | 1=>[84,71,84]
 | 2=>[83,84]
 | 3=>[80,84]
 | 4=>[80,71,84]
 | 5=>[80,71,84,73,79,85]
 | 6=>[76,84]
 | _=>[]
def hx(c:Ui):Option Nat:=if 48<=c&&c<=57 then some (c.toNat-48)else if 97<=c&&c<=102 then some (c.toNat-87)else none
def HV(n:Nat):List UInt8->Option Nat
 | []=>some n
 | c::r=>match hx c with
  | some d=>HV (16*n+d) r
  | none=>none
def TO(s:Lu):Option Nat:=if s.length=16 then HV 0 s else none
def Pz(p:Lu):Nat:=if p=pre 1 then 1 else if p=pre 2 then 2 else if p=pre 3 then 3 else if p=pre 4 then 4 else if p=pre 5 then 5 else if p=pre 6 then 6 else 0
def Ey(s:Lu):Option (Nat×Nat) :=
 if Pz (AP [45] s)=0 then none else(TO ((Xn [45] s).drop 1)).map λd=>(Pz (AP [45] s),d)
theorem gI{c:Ui}{d:Nat}(h:hx c=some d):d<16:=by
 have:=Xc (p:=λc=>match hx c with|some d=>decide (d<16)|none=>true) dk c
 rw[h]at this;simpa using this
theorem Vu:∀(s:Lu) (n m k:Nat),n<16^k->HV n s=some m->m<16^(k+s.length)
 | [],n,m,k,b,h=>by
  simp only[HV,Option.some.injEq]at h
  subst h;exact b
 | c::r,n,m,k,b,h=>by
  rw[HV]at h;cases a:hx c with
  | none=>rw[a]at h;cases h
  | some d =>
   rw[a]at h;have e:=gI a
   have:=Vu r (16*n+d) m (k+1) (by rw[T9];omega) h
   rw[Y5,show k+(r.length+1)=k+1+r.length by omega];exact this
theorem cA{s:Lu}{d:Nat}(h:TO s=some d):d<18446744073709551616:=by
 unfold TO at h;split at h
 ·rename_i a
  have:=Vu s 0 d 0 de h
  rw[a]at this;exact this
 ·cases h
def KX:Nat->Nat->List UInt8
 | 0,_=>[]
 | k+1,n=>KX k (n/16)++[if n%16<10 then UInt8.ofNat (48+n%16)else UInt8.ofNat (87+n%16)]
theorem ss:∀(k n:Nat),(KX k n).length=k
 | 0,_=>rfl
 | k+1,n=>by rw[KX,Y0,ss k];rfl
theorem NN:∀(s t:Lu) (n:Nat),HV n (s++t)=(HV n s).bind λm=>HV m t
 | [],_,_=>rfl
 | c::r,t,n=>by
  rw[Em,HV,HV];cases hx c with
  | none=>rfl
  | some d=>exact NN r t _
theorem NU(p:Lu):Pz p<=6:=by
 unfold Pz
 by_cases a:p=pre 1
 ·rw[Y9 a];decide
 by_cases b:p=pre 2
 ·rw[Y3 a,Y9 b];decide
 by_cases c:p=pre 3
 ·rw[Y3 a,Y3 b,Y9 c];decide
 by_cases d:p=pre 4
 ·rw[Y3 a,Y3 b,Y3 c,Y9 d];decide
 by_cases e:p=pre 5
 ·rw[Y3 a,Y3 b,Y3 c,Y3 d,Y9 e];decide
 by_cases f:p=pre 6
 ·rw[Y3 a,Y3 b,Y3 c,Y3 d,Y3 e,Y9 f];decide
 ·rw[Y3 a,Y3 b,Y3 c,Y3 d,Y3 e,Y3 f];decide
theorem NT{p:Lu}(h:Pz p≠0):p=pre (Pz p):=by
 unfold Pz at h ⊢
 by_cases a:p=pre 1
 ·rw[Y9 a];exact a
 by_cases b:p=pre 2
 ·rw[Y3 a,Y9 b];exact b
 by_cases c:p=pre 3
 ·rw[Y3 a,Y3 b,Y9 c];exact c
 by_cases d:p=pre 4
 ·rw[Y3 a,Y3 b,Y3 c,Y9 d];exact d
 by_cases e:p=pre 5
 ·rw[Y3 a,Y3 b,Y3 c,Y3 d,Y9 e];exact e
 by_cases f:p=pre 6
 ·rw[Y3 a,Y3 b,Y3 c,Y3 d,Y3 e,Y9 f];exact f
 ·rw[Y3 a,Y3 b,Y3 c,Y3 d,Y3 e,Y3 f]at h;exact Yz O h
theorem oo{s:Lu}{d:Nat}(h:Ey s=some (k,d)):1<=k/\k<=6/\d<18446744073709551616/\s.length<=23/\s≠[]:=by
 unfold Ey at h;split at h
 ·cases h
 ·rename_i b
  obtain⟨x,hx,e⟩:=K5.1 h;simp only[Prod.mk.injEq]at e
  obtain⟨rfl,rfl⟩:=e;have c:=NU (AP [45] s);refine⟨om,c,cA hx,?_,λe=>by subst e;exact b O⟩;unfold TO at hx;split at hx
  ·rename_i a
   have f:=Xmd [45] s;have g:(AP [45] s).length<=6:=by
    rw[NT b]
    have:=(by decide:∀k:Fin 7,(pre k.val).length<=6) ⟨Pz (AP [45] s),om⟩
    exact this
   rw[Y6]at a;omega
  ·cases hx
end Tk
namespace Tr
open Tk
structure Ah where
 kind:Int
 name:Lu
 parent:Lu
 user:Lu
 service:Lu
 url:Lu
 made:Int
 used:Int
 AV:Int
 fresh:Bool
 deriving DecidableEq
def r0:Ah:=⟨0,[],[],[],[],[],0,0,0,false⟩
def Zo(a of:Int):Bool:=(a==1&&of==0)||(a==6&&of==0)||(a==2&&of==1)||(a==3&&of==4)||(a==4&&of==2)||(a==4&&of==3)||(a==5&&of==4)
def l9(a:Int)(name:List UInt8):Bool:=if name=[]then Zo a 0 else match Ey name with
 | some (of,_)=>Zo a (of:Nat)
 | none=>false
def QN(s:List UInt8)(a:Int):Bool:=match Ey s with
 | some (k,_)=>((k:Nat):Int)==a
 | none=>false
def C7(r:Ah):Bool :=
 (decide ((r.user.length:Int)<=32)&&decide ((r.service.length:Int)<=100)&&decide ((r.url.length:Int)<=100))&&(decide (0<=r.made)&&decide (r.made<=r.used)&&decide (r.used<=1099511627776)&&decide (0<=r.AV)&&decide (r.AV<=255))&&QN r.name r.kind&&l9 r.kind r.parent
def GI(name:List UInt8):List Ah->Nat->Int
 | [],_=>-1
 | r::l,i=>if r.name=name then(i:Int)else GI name l (i+1)
def BA(l:List Ah)(name:Lu):Int:=GI name l 0
theorem Xue(name:Lu):∀(l:List Ah) (i:Nat),(GI name l i=-1/\∀r∈l,r.name≠name)\/∃(j:Nat) (r:Ah),GI name l i=((i+j:Nat):Int)/\l[j]?=some r/\r.name=name/\∀(q:Nat) (t:Ah),q<j->l[q]?=some t->t.name≠name
 | [],_=>.inl ⟨O,λr h=>by simp at h⟩
 | a::l,i=>by
  rw[GI]
  by_cases h:a.name=name
  ·rw[Y9 h];exact .inr ⟨0,a,O,O,h,λq t f=>Yz f om⟩
  ·rw[Y3 h];rcases Xue name l (i+1)with⟨b,c⟩|⟨j,r,b,c,g,k⟩
   ·refine .inl ⟨b,λr m=>?_⟩;rcases Yp.1 m with e|e
    ·subst e;exact h
    ·exact c r e
   ·refine .inr ⟨j+1,r,by rw[b];congr 1;omega,c,g,λq t f d=>?_⟩;cases q with
    | zero=>simp at d;subst d;exact h
    | succ q=>exact k q t om (su d)
theorem TG(l:List Ah)(name:Lu):(BA l name=-1/\∀r∈l,r.name≠name)\/∃(j:Nat) (r:Ah),BA l name=(j:Int)/\l[j]?=some r/\r.name=name/\∀(q:Nat) (t:Ah),q<j->l[q]?=some t->t.name≠name:=by
 rcases Xue name l 0 with h|⟨j,r,a,b⟩
 ·exact .inl h
 ·exact .inr ⟨j,r,by rw[BA,a,Yk],b⟩
theorem mX(l:List Ah)(name:Lu):BA l name<l.length:=by
 rcases TG l name with⟨h,_⟩|⟨j,r,h,a,_⟩
 ·rw[h];omega
 ·have:=(Y1.1 a).1
  rw[h];omega
theorem Ur(l:List Ah)(name:Lu):-1<=BA l name:=by
 rcases TG l name with⟨h,_⟩|⟨j,r,h,_⟩<;>rw[h]<;>omega
def get(l:List Ah)(name:Lu):Option Ah:=l.find? λr=>decide (r.name=name)
theorem get_at(l:List Ah)(name:Lu):(BA l name=-1/\get l name=none)\/∃(j:Nat) (r:Ah),BA l name=(j:Int)/\l[j]?=some r/\r.name=name/\get l name=some r:=by
 rcases TG l name with⟨d,c⟩|⟨j,r,d,c,e,f⟩
 ·refine .inl ⟨d,?_⟩;unfold get;rw[List.find?_eq_none];intro r g;simpa using c r g
 ·refine .inr ⟨j,r,d,c,e,?_⟩;unfold get
  have:∀(l:List Ah) (j:Nat),l[j]?=some r->(∀(q:Nat) (t:Ah),q<j->l[q]?=some t->t.name≠name)->l.find? (λr=>decide (r.name=name))=some r:=by
   intro l
   induction l with
   | nil=>intro j h;simp at h
   | cons a l k =>
    intro j h b;rw[yy];cases j with
    | zero=>simp at h;subst h;rw[decide_eq_true e]
    | succ j =>
     rw[decide_eq_false (b 0 a om O)];exact k j (su h) (λq t m i=>b (q+1) t om (su i))
  exact this l j c f
def KW(a:Int)(l:List Ah)(r:Ah):Nat:=if C7 r=false then 1 else if 0<=BA l r.name then 7 else if r.parent≠[]/\BA l r.parent<0 then 6 else if a<=l.length then 5 else 0
def add(a:Int)(l:List Ah)(r:Ah):List Ah:=if KW a l r=0 then l++[r]else l
def Fg(l:List Ah)(r:Ah):Nat:=if C7 r=false then 1 else match get l r.name with
 | none=>6
 | some t=>if t.parent≠r.parent then 8 else 0
def put(l:List Ah)(r:Ah):List Ah:=if Fg l r=0 then l.set (BA l r.name).toNat r else l
structure Wf(l:List Ah):Prop where
 right:∀r∈l,C7 r=true
 one:∀(i j:Nat) (r s:Ah),l[i]?=some r->l[j]?=some s->r.name=s.name->i=j
 up:∀(i:Nat) (r:Ah),l[i]?=some r->(r.parent=[]\/0<=BA l r.parent)/\BA l r.parent<i
theorem Wf.nil:Wf []:=⟨λr h=>by simp at h,λi j r s h=>by simp at h,λi r h=>by simp at h⟩
theorem Wf.at_{l:List Ah}(h:Wf l){r:Ah}(b:l[i]?=some r):BA l r.name=(i:Int):=by
 rcases TG l r.name with⟨_,a⟩|⟨j,t,c,a,d,_⟩
 ·exact Yz O (a r (Y7 b))
 ·rw[c,h.one j i t r a b d]
theorem Wf.qf{l:List Ah}(h:Wf l){r:Ah}(a:l[i]?=some r):get l r.name=some r:=by
 rcases get_at l r.name with⟨b,_⟩|⟨j,t,b,c,d,f⟩
 ·rw[h.at_ a]at b;omega
 ·rw[f];have e:j=i:=h.one j i t r c a d;subst e;rw[c]at a;exact a
theorem vY{r:Ah}(h:C7 r=true):r.name≠[]:=by
 intro e;unfold C7 at h;simp only[Y8]at h
 have a:=h.1.2;unfold QN at a;rw[e]at a;cases b:Ey []with
 | none=>rw[b]at a;cases a
 | some x=>exact(oo (k:=x.1) (d:=x.2) b).2.2.2.2 O
theorem Ng(name:Lu):∀(l m:List Ah) (i:Nat),GI name (l++m) i=if GI name l i=-1 then GI name m (i+l.length)else GI name l i
 | [],m,i=>by simp[GI]
 | a::l,m,i=>by
  rw[Em,GI,GI];split
  ·rw[Y3 om]
  ·rw[Ng name l m (i+1),Y5,show i+1+l.length=i+(l.length+1)by omega]
theorem bE(l:List Ah)(r:Ah)(name:Lu):BA (l++[r]) name=if BA l name=-1 then(if r.name=name then(l.length:Int)else -1)else BA l name:=by
 unfold BA;rw[Ng];simp[GI]
theorem sA{l:List Ah}{r:Ah}{t:Ah}(h:(l++[r])[i]?=some t):l[i]?=some t\/(i=l.length/\t=r):=by
 rcases Yt i l.length with a|a
 ·rw[Ye a]at h;exact .inl h
 ·rw[Yw a]at h;have b:=(Y1.1 h).1;simp at b
  have c:i=l.length:=om
  subst c;simp at h
  exact .inr ⟨O,h.symm⟩
theorem Ua{room:Int}{l:List Ah}{r:Ah}(h:KW room l r=0):C7 r=true/\BA l r.name=-1/\(r.parent=[]\/0<=BA l r.parent)/\(l.length:Int)<room:=by
 unfold KW at h;split at h
 ·cases h
 ·rename_i a
  split at h
  ·cases h
  ·rename_i d
   split at h
   ·cases h
   ·rename_i b
    split at h
    ·cases h
    ·refine⟨su a,by have:=Ur l r.name;omega,?_,om⟩
     by_cases e:r.parent=[]
     ·exact .inl e
     ·refine .inr ?_
      have:¬ BA l r.parent<0:=λc=>b ⟨e,c⟩
      omega
theorem Wf.snoc{l:List Ah}(h:Wf l){r:Ah}(v:C7 r=true)(o:BA l r.name=-1)(u:r.parent=[]\/0<=BA l r.parent):Wf (l++[r]):=by
 have m:∀t∈l,t.name≠r.name:=by
  rcases TG l r.name with⟨_,f⟩|⟨j,t,f,_⟩
  ·exact f
  ·rw[f]at o;omega
 have k:∀l:List Ah,(∀r∈l,C7 r=true)->BA l []=-1:=λl x=>by
  rcases TG l []with⟨f,_⟩|⟨j,t,_,n,c,_⟩
  ·exact f
  ·exact Yz c (vY (x t (Y7 n)))
 refine⟨λt n=>?_,λi j s t hi q c=>?_,λi t hi=>?_⟩
 ·rcases Ys.1 n with e|e
  ·exact h.right t e
  ·simp at e;subst e;exact v
 ·rcases sA hi with a|⟨a,d⟩
  ·rcases sA q with b|⟨b,g⟩
   ·exact h.one i j s t a b c
   ·rw[g]at c;exact Yz c (m s (Y7 a))
  ·rcases sA q with b|⟨b,g⟩
   ·rw[d]at c;exact Yz c.symm (m t (Y7 b))
   ·omega
 ·have key:∀(t:Ah),(t.parent=[]\/0<=BA l t.parent)->BA (l++[r]) t.parent=BA l t.parent:=λt n=>by
   rw[bE];rcases n with e|e
   ·rw[e,k l h.right,Y9 O,Y3 (vY v)]
   ·rw[Y3 om]
  rcases sA hi with a|⟨a,d⟩
  ·obtain⟨p,w⟩:=h.up i t a;rw[key t p];exact⟨p,w⟩
  ·subst a;subst d;rw[key t u];exact⟨u,mX l t.parent⟩
theorem Wf.add{l:List Ah}(h:Wf l){a:Int}{r:Ah}:Wf (add a l r):=by
 unfold Tr.add;split
 ·rename_i e
  obtain⟨b,c,d,_⟩:=Ua e;exact h.snoc b c d
 ·exact h
theorem Nh(name:Lu){r:Ah}:∀(l:List Ah) (k i:Nat) (t:Ah),l[k]?=some t->t.name=r.name->GI name (l.set k r) i=GI name l i
 | [],k,i,t,h,_=>by simp at h
 | a::l,0,i,t,h,b=>by
  simp at h;subst h
  rw[List.set_cons_zero,GI,GI,b]
 | a::l,k+1,i,t,h,b=>by
  rw[pI,GI,GI,Nh name l k (i+1) t (su h) b]
theorem k7{l:List Ah}{r:Ah}(h:Fg l r=0):C7 r=true/\∃(j:Nat) (t:Ah),BA l r.name=(j:Int)/\l[j]?=some t/\t.name=r.name/\t.parent=r.parent/\get l r.name=some t:=by
 unfold Fg at h;split at h
 ·cases h
 ·rename_i c
  refine⟨su c,?_⟩;rcases get_at l r.name with⟨_,a⟩|⟨j,t,a,d,e,b⟩
  ·rw[a]at h;cases h
  ·rw[b]at h;simp only at h
   split at h
   ·cases h
   ·rename_i f
    exact⟨j,t,a,d,e,su f,b⟩
theorem Wf.set{l:List Ah}(h:Wf l){j:Nat}{t r:Ah}(f:l[j]?=some t)(n:t.name=r.name)(w:t.parent=r.parent)(x:C7 r=true):Wf (l.set j r):=by
 have z:=(Y1.1 f).1;have e:∀name,BA (l.set j r) name=BA l name:=λname=>Nh name l j 0 t f n
 have g:∀(i:Nat) (s:Ah),(l.set j r)[i]?=some s->∃u,l[i]?=some u/\u.name=s.name/\u.parent=s.parent:=λi s b=>by
  rw[nG]at b;split at b
  ·rename_i d
   subst d;cases b
   exact⟨t,f,n,w⟩
  ·exact⟨s,b,O,O⟩
 refine⟨λs b=>?_,λi k s u hi v q=>?_,λi s hi=>?_⟩
 ·rcases pB b with a|a
  ·exact h.right s a
  ·subst a;exact x
 ·obtain⟨m,a,c,_⟩:=g i s hi;obtain⟨y,o,p,_⟩:=g k u v;exact h.one i k m y a o (by rw[c,p,q])
 ·obtain⟨m,a,_,c⟩:=g i s hi;rw[e,<-c];exact h.up i m a
theorem Wf.put{l:List Ah}(h:Wf l){r:Ah}:Wf (put l r):=by
 unfold Tr.put;split
 ·rename_i f
  obtain⟨a,j,t,b,c,d,e,_⟩:=k7 f;rw[b,Yd];exact h.set c d e a
 ·exact h
def KR(l:List Ah):Nat->Int->List Ah
 | 0,_=>[]
 | f+1,i=>if i<0 then[]else match l[i.toNat]? with
  | some r=>r::KR l f (BA l r.parent)
  | none=>[]
theorem lY(l:List Ah)(f:Nat){i:Int}(h:i<0):KR l f i=[]:=by
 cases f with
 | zero=>rfl
 | succ f=>rw[KR,Y9 h]
theorem Xiv{l:List Ah}(h:Wf l):∀(f g:Nat) (i:Int),i<f->i<g->KR l f i=KR l g i
 | 0,g,i,a,_=>by rw[lY l g om,lY l 0 om]
 | f+1,0,i,_,b=>by rw[lY l (f+1) om,lY l 0 om]
 | f+1,g+1,i,a,b=>by
  rw[KR,KR];split
  ·rfl
  ·rename_i hi
   cases c:l[i.toNat]? with
   | none=>rfl
   | some r =>
    have d:=(h.up i.toNat r c).2;simp only
    rw[Xiv h f g (BA l r.parent) om om]
def ju(l:List Ah)(i:Int):List Ah:=KR l (i.toNat+1) i
def path(l:List Ah)(name:Lu):List Ah:=ju l (BA l name)
theorem Rh(l:List Ah){i:Int}(h:i<0):ju l i=[]:=lY l _ h
theorem Xwc{l:List Ah}(h:Wf l){r:Ah}(a:l[i]?=some r):ju l (i:Int)=r::ju l (BA l r.parent):=by
 unfold ju;rw[Yd,KR,Y3 om,Yd,a];simp only
 have b:=(h.up i r a).2;rw[Xiv h i ((BA l r.parent).toNat+1) _ om om]
def np(l:List Ah)(name:Lu):List Ah:=l.filter λr=>decide (name≠[])&&decide (r.parent=name)
def kids(l:List Ah)(name:Lu):List Lu:=(np l name).map Ah.name
def C6(l:List Ah):Nat->List UInt8->List (List UInt8)
 | 0,_=>[]
 | f+1,name=>name::(kids l name).flatMap (C6 l f)
def below(l:List Ah)(name:Lu):List Lu:=if 0<=BA l name then C6 l l.length name else[]
def drop(l:List Ah)(name:Lu):List Ah:=l.filter λr=>!(below l name).contains r.name
def Eu{α:Type}(a:α->Bool):List α->Nat->Int
 | [],_=>-1
 | s::r,i=>if a s then(i:Int)else Eu a r (i+1)
theorem vt{α:Type}(a:α->Bool):∀(n:Nat) (r:List α) (i:Nat),(∀(j:Nat) s,j<n->r[j]?=some s->a s=false)->Eu a r i=Eu a (r.drop n) (i+min n r.length)
 | 0,r,i,_=>by simp
 | n+1,[],i,_=>by simp[Eu]
 | n+1,s::r,i,h=>by
  rw[Eu,Y3 (by rw[h 0 s om O];decide),vt a n r (i+1) (λj t c b=>h (j+1) t om (su b)),Ks,Y5]
  congr 1
  omega
theorem iG{a:α->Bool}{l:List α}{s:α}(h:∀(j:Nat) t,j<i->l[j]?=some t->a t=false)(b:l[i]?=some s)(c:a s=true):Eu a l 0=(i:Int):=by
 have hi:=(Y1.1 b).1;rw[vt a i l 0 h,Yk,M8 om,Ym hi,(Y1.1 b).2,Eu,Y9 c]
theorem iF{a:α->Bool}{l:List α}(h:∀(j:Nat) t,l[j]?=some t->a t=false):Eu a l 0=-1:=by
 rw[vt a l.length l 0 (λj t _ b=>h j t b),nI];rfl
theorem ZX{α:Type}(a:α->Bool):∀(l:List α) (i:Nat),decide (0<=Eu a l i)=l.any a
 | [],i=>rfl
 | s::r,i=>by
  rw[Eu,yB];split
  ·rename_i h
   rw[h,Bool.true_or,dq1];omega
  ·rename_i h
   rw[uq.2 h,K9,ZX a r (i+1)]
theorem Xv3(name:Lu):∀(l:List Ah) (i:Nat),Eu (λr=>decide (r.name=name)) l i=GI name l i
 | [],i=>rfl
 | s::r,i=>by
  rw[Eu,GI,Xv3 name r (i+1)];simp only[dq1]
def getD(l:List Ah)(name:Lu):Ah:=(get l name).getD r0
end Tr
namespace Go.Proofs.W9
open Gk Ul Pc DN Xm Tr
open Tryz
theorem sr(h:At I p vs)(n:Nat):At I p (vs.take n):=by
 obtain⟨d,b,E,c,e,f⟩:=h;refine⟨d,b,E,c,e,λj v a=>?_⟩;rw[PO]at a;split at a
 ·exact f j v a
 ·cases a
theorem Be{cells:α->Lv}{s:Nat}(e:∀x,(cells x).length=s){l:List α}(d:RS I a s l.length (X2 cells l)){x:α}(hx:l[i]?=some x):∃q,a=some q/\At I (q.add (i*s)) (cells x):=by
 obtain⟨q,rfl,f⟩:=d.2 (oh ((Y1.1 hx).1));refine⟨q,O,?_⟩;have b:=sr (f.add (i*s)) s;rw[X2,ZY (l.map cells) (λc h=>by obtain⟨y,_,rfl⟩:=Dt.1 h;exact e y) i (cells x) (by rw[Yr,hx];rfl)]at b;exact b
abbrev EM(p:Px):Lv:=[S p.1,S p.2]
def rq:Lv:=X2 EM MK
structure Kx(I:Im):Prop where
 FC:At I (ad 4 0) rq
 pow : ∀(B w : World) (N : List X1), Aa B w I N → Go.Lib.TabIs prog w "internal/strconv.uint64pow10" .u64 Go.Lib.pow10Tab
 max:∀(B w:Wo) (N:La),Aa B w I N->∃m,w.cell? ⟨1,0,none⟩=some (.int .i64 m)
theorem pg(c:Le I J):Aa B w J N->Aa B w I N:=λ⟨g,d,a⟩=>⟨g,d,a.os,a.tape,a.output,λb o hi=>a.GN b o (c.h b o hi),a.own,a.nodup,λb o e=>by
  cases hi:I b with
  | none=>rfl
  | some x=>have:=a.apart b o e;rw[c.h b x hi]at this;cases this⟩
theorem Kx.mono(h:Kx I)(a:Le I J):Kx J :=
 ⟨h.FC.mono a,λB w N s=>h.pow B w N (pg a s),λB w N s=>h.max B w N (pg a s)⟩
theorem SC(s:Lu)(c:Ui)(g:s.length<=1000000)(b:Kx I)(N:La)(a:Aa B w I N):Calls prog 85 #[S s,S [c]] w (AY λv w'=>v=.tuple #[S (AP [c] s),S ((Xn [c] s).drop 1),.bool (!(Xn [c] s).isEmpty)]/\Aa B w' I N):=by
 obtain⟨m,f⟩:=b.max B w N a;refine(strings_Cut ⟨s.toArray⟩ ⟨[c].toArray⟩ m w (by show s.length<_;omega) f).mono λe w' d=>?_
 obtain⟨rfl,n,rfl⟩:=d;refine⟨_,O,?_,lW a n⟩;show Value.tuple #[S (Go.Lib.cut s [c]).1,S (Go.Lib.cut s [c]).2.1,.bool (Go.Lib.cut s [c]).2.2]=_
 rw[Nu]
theorem Xnb(s m:Lu)(c:Ui)(x:s.length<=100000000)(r:m.length<=6)(b:([c]==m)=false)(g:Kx I)(N:La)(d:Aa B w I N):Calls prog 458 #[S s,S [c],S m] w (AY λv w'=>v=S (K4 c m s)/\Aa B w' I N):=by
 obtain⟨q,t⟩:=g.max B w N d;have a:Go.Lib.countB ⟨s.toArray⟩ ⟨[c].toArray⟩<=s.length:=by
  have h:∀(n:Nat) (s:Lu),s.length<=n->Go.Lib.count s [c]<=s.length:=by
   intro n
   induction n with
   | zero =>
    intro s h
    have:s=[]:=Yi om
    subst this;rw[Go.Lib.count_miss (by rw[Go.Lib.index_one];rfl)];exact Ya _
   | succ n u =>
    intro s h;have o:=Go.Lib.indexByte_ge s c
    by_cases e:Go.Lib.indexByte s c=-1
    ·rw[Go.Lib.count_miss (by rw[Go.Lib.index_one];exact e)];exact Y4 _
    ·obtain⟨i,f⟩:∃k:Nat,Go.Lib.indexByte s c=k:=⟨(Go.Lib.indexByte s c).toNat,om⟩
     have p:i<s.length:=(Y1.1 (Go.Lib.indexByte_some f).1).1;rw[Go.Lib.count_hit sz (by rw[Go.Lib.index_one];exact f)]
     have:=u (s.drop (i+1)) (by rw[Y6];omega)
     rw[Y6]at this;show 1+Go.Lib.count (s.drop (i+1)) [c]<=_
     omega
  exact h _ s (Ya _)
 refine(strings_ReplaceAll ⟨s.toArray⟩ ⟨[c].toArray⟩ ⟨m.toArray⟩ q w (by show s.length<_;omega) t (Ya 1) ?_).mono λe w' l=>?_
 ·show s.length+Go.Lib.countB ⟨s.toArray⟩ ⟨[c].toArray⟩*m.length<=_
  have:Go.Lib.countB ⟨s.toArray⟩ ⟨[c].toArray⟩*m.length<=s.length*6:=uy a r
  omega
 ·obtain⟨rfl,j⟩:=l;refine⟨_,O,?_,d.grown j⟩;show S (Go.Lib.replaceAll s [c] m)=_
  rw[Xtm c m s b]
theorem Ex.QL{x y:Operand}{t:TypeId}{g:Option (Nat×Bool)}{s:Nat}{e:TypeId}{us:Lv}{i:Int}{q:IntKind}(hx:Ev n L x (.agg vs.toArray))(o:Ev n L y (.int q i))(hi:0<=i)(h:i<(m:Int))(k:P.underlying t=some (.array m e))(j:∀w,(Go.sizeOf e).run P w=.ok s w)(f:∀w,(isAgg e).run P w=.ok true w)(l:(vs.drop (i.toNat*s)).take s=us)(a:i.toNat*s+s<=vs.length):Ex P n L w ⟨d,.index t x y,ty,pos,af,g⟩ (.agg us.toArray) w:=λb c=>by
 subst l;simp[execOp,hx b c,o b c,Instr.index,run_underlying k,asIntOf,hi,h,j,f,part,a]
theorem dE(c:Ui):((decide (97<=(c.toNat:Int))&&decide ((c.toNat:Int)<=122))||(decide (65<=(c.toNat:Int))&&decide ((c.toNat:Int)<=90)))=E9 c:=eq_of_beq (Xc (p:=λc=>((decide (97<=(c.toNat:Int))&&decide ((c.toNat:Int)<=122))||(decide (65<=(c.toNat:Int))&&decide ((c.toNat:Int)<=90)))==E9 c) dk c)
theorem cR(c:Ui):((((E9 c||(decide (48<=(c.toNat:Int))&&decide ((c.toNat:Int)<=57)))||((c.toNat:Int)==58))||((c.toNat:Int)==45))||((c.toNat:Int)==95))=HW c:=eq_of_beq (Xc (p:=λc=>((((E9 c||(decide (48<=(c.toNat:Int))&&decide ((c.toNat:Int)<=57)))||((c.toNat:Int)==58))||((c.toNat:Int)==45))||((c.toNat:Int)==95))==HW c) dk c)
theorem XB(c:Ui):(((c.toNat:Int)==127)||((decide ((c.toNat:Int)<32)&&((c.toNat:Int)!=9))&&((c.toNat:Int)!=10)))=!eC c:=eq_of_beq (Xc (p:=λc=>(((c.toNat:Int)==127)||((decide ((c.toNat:Int)<32)&&((c.toNat:Int)!=9))&&((c.toNat:Int)!=10)))==!eC c) dk c)
theorem NL{s:Lu}(h:s≠[]):s.headD 0=at_ s 0:=by
 cases s with
 | nil=>exact Yz O h
 | cons a b=>rfl
theorem Xh4(c:Ui)(N:La)(a:Aa B w I N):Ce B I N 476 [U8 c.toNat] w (.bool (E9 c)):=by
 refine gH 14 ?_;exact gG 2 ⟨Yc Value.bool (dE c),a⟩
theorem Xu6(c:Ui)(N:La)(a:Aa B w I N):Ce B I N 477 [U8 c.toNat] w (.bool (HW c)):=by
 refine gE 2 (Xh4 c) ?_;intro w a;refine gH 14 ?_;exact gG 7 ⟨Yc Value.bool (cR c),a⟩
theorem Xqs(s:Lu)(t:s.length<=1000000)(N:La)(a:Aa B w I N):Ce B I N 455 [S s] w (.bool (HI s)):=by
 refine gH 5 (.Aj O O (λb=>.LA (l:=s) (i:=(0:Int)) (.gd b O) (.of O) om (oh (K6.2 (show s≠[] from by simpa using b))) A8) O ?_);refine .Au (T:=λw=>Aa B w I N) O O O func476 O (λb=>(X6 (.gd b O) X4)) O (λb=>Xh4 (at_ s 0) _ a) a ?_;clear a;rintro w a;refine gM 2 ?_ ?_<;>intro c n
 ·refine gG 1 (⟨Yc Value.bool ?_,a⟩);unfold HI
  by_cases g:s=[]
  ·rw[g];rfl
  ·have h:=c;rw[show(s==[])=false by simpa using g,K9]at h;rw[NL g,show E9 (at_ s 0)=false by simpa using h,T7];rfl
 refine gG 3 (.lk [0,13] (σ:=Nat) (λi _m=>(14,Ab (i:Nat))::_m) (λi w=>i<=s.length/\(∀j,j<i->j<s.length->HW (at_ s (j:Int))=true)/\Aa B w I N) (λi=>s.length-i) 0 ⟨Y4 _,λ_ h=>Yz h om,a⟩ ?_);rintro i w ⟨hi,f,a⟩;refine gN 1 ?_ ?_<;>intro o
 ·refine gE 5 (Xu6 _) ?_;intro w a;refine gM 1 ?_ ?_<;>intro d q
  ·refine gG 1 (⟨Yc Value.bool ?_,a⟩);unfold HI;rw[oU (p:=HW) (i:=i) om (su d),T7]
  refine gG 2 (rd (i+1) ⟨om,λj r k=>?_,a⟩);rcases Yt j i with m|m
  ·exact f j m k
  ·have e:j=i:=om
   subst e;simpa using d
 refine gG 1 (⟨Yc Value.bool ?_,a⟩);have h:=c;simp only[EB,nD]at h
 have g:s≠[]:=su h.1
 unfold HI;rw[NL g,h.1,h.2,mz f om];rfl
theorem Xjh(s:Lu)(n:s.length<=1000000)(N:La)(b:Aa B w I N):Ce B I N 457 [S s] w (.bool (TR s)):=by
 refine gG 4 (.lk [0,6] (σ:=Nat) (λi _m=>(7,Ab (i:Nat))::_m) (λi w=>i<=s.length/\(∀j,j<i->j<s.length->eC (at_ s (j:Int))=true)/\Aa B w I N) (λi=>s.length-i) 0 ⟨Y4 _,λ_ h=>Yz h om,b⟩ ?_);rintro i w ⟨hi,d,b⟩;refine gN 1 ?_ ?_<;>intro l
 ·refine gH 14 ?_;refine gM 6 ?_ ?_<;>intro a k
  ·refine gG 1 (⟨Yc Value.bool ?_,b⟩);have c:=XB (at_ s (i:Int));rw[a]at c;exact(oU (p:=eC) (i:=i) om (su c.symm)).symm
  refine gG 2 (rd (i+1) ⟨om,λj m f=>?_,b⟩);rcases Yt j i with g|g
  ·exact d j g f
  ·have e:j=i:=om
   subst e;have c:=XB (at_ s (j:Int));rw[a]at c;simpa using c.symm
 exact gG 1 ⟨Yc Value.bool (mz d om).symm,b⟩
theorem Xha(a:Oa)(cap:Nat)(l:List (Px))(A:l.length<=9223372036854775807)(q:Px->Bool)(f:FuncId)(fn:Func)(o:prog.funcs[f]?=some fn)(m:Xf fn=true)(b:Lv)(N:La)(x:∀w,Aa B w I N->Jg w EM 2 a l)(z:∀(r:Px) (n:r∈l) w,Aa B w I N->Calls prog f ([Value.agg (EM r).toArray]++b).toArray w (AY λv w'=>v=.bool (q r)/\Aa B w' I N))(c:Aa B w I N):Ce B I N 439 [.slice a l.length cap,.func (.func f) #[] b.toArray] w (Ab (Eu q l 0)):=by
 refine gG 4 (.lk [0,1,7] (σ:=Nat) (λi _m=>(8,Ab (i:Nat))::_m) (λi w=>i<=l.length/\(∀(j:Nat) t,j<i->l[j]?=some t->q t=false)/\Aa B w I N) (λi=>l.length-i) 0 ⟨Y4 _,λ_ _ h=>Yz h om,c⟩ ?_);rintro i w ⟨hi,g,c⟩;refine gN 1 ?_ ?_<;>intro y
 ·obtain⟨r,n⟩:∃r,l[i]?=some r:=⟨_,Y2 om⟩
  obtain⟨p,rfl,hx⟩:=x w c i r n;refine gH 6 (.val (.IA (.of O) hx Zk Ij O) O (.Bv (cap:=b) o m (.of O) (A3 O X4) O (z r (Y7 n) w c) ?_));rintro _ w ⟨rfl,c⟩;refine gM 0 ?_ ?_<;>intro d u
  ·exact gG 2 ⟨by rw[iG g n d],c⟩
  refine gG 2 (rd (i+1) ⟨om,λj t C k=>?_,c⟩);rcases Yt j i with s|s
  ·exact g j t s k
  ·have e:j=i:=om
   subst e;rw[n]at k;cases k;exact d
 exact gG 1 ⟨by rw[iF (λj t k=>g j t (oh ((Y1.1 k).1)) k)],c⟩
theorem Xbg(a:Oa)(cap:Nat)(l:List (Px))(g:l.length<=9223372036854775807)(e:Px->Bool)(b:FuncId)(fn:Func)(f:prog.funcs[b]?=some fn)(d:Xf fn=true)(c:Lv)(N:La)(i:∀w,Aa B w I N->Jg w EM 2 a l)(j:∀(r:Px) (k:r∈l) w,Aa B w I N->Calls prog b ([Value.agg (EM r).toArray]++c).toArray w (AY λv w'=>v=.bool (e r)/\Aa B w' I N))(h:Aa B w I N):Ce B I N 382 [.slice a l.length cap,.func (.func b) #[] c.toArray] w (.bool (l.any e)):=by
 refine gP 3 [] (Xha a cap l g e b fn f d _ N i j) ?_;rintro _ w ⟨rfl,h⟩;exact gG 2 ⟨by rw[<-ZX e l 0],h⟩
theorem Xy1(r a:Px)(b:Nat)(N:La)(c:Aa B w I (Ac b [S a.1,S a.2] 124::N)):Ce B I (Ac b [S a.1,S a.2] 124::N) 478 [.agg (EM r).toArray,ptr b 0] w (.bool (r.1==a.1)):=by
 refine gG 8 ?_;intro d w c;exact⟨O,c.s⟩
theorem eo{l:List Px}(h:RS I a 2 l.length (X2 EM l))(k:Nat)(g:k<=l.length):RS I a 2 (l.take k).length (X2 EM (l.take k)):=by
 refine⟨R0 (cells:=EM) (λ_=>rfl) _,λd=>?_⟩;obtain⟨p,rfl,f⟩:=h.2 (by rw[Yl]at d;omega);refine⟨p,O,?_⟩;have b:=sr f (X2 EM (l.take k)).length;have e:(X2 EM l).take (X2 EM (l.take k)).length=X2 EM (l.take k):=by
  have c:X2 EM l=X2 EM (l.take k)++X2 EM (l.drop k):=by
   conv=>lhs;rw[<-Fw k l]
   unfold X2;rw[Yn,PN]
  conv=>lhs;rw[c]
  exact T8
 rw[e]at b;exact b
theorem Ml(A:Oa)(cap:Nat)(l:List Px)(z:l.length<=cap)(D:l.length<=9223372036854775807)(q:∀a∈l,a.1.length<=1000000/\a.2.length<=1000000)(u:RS I A 2 l.length (X2 EM l))(N:La)(d:Aa B w I N):Ce B I N 456 [.slice A l.length cap] w (.bool (TM [] l)):=by
 refine gG 4 (.lk [0,5,6] (σ:=Nat) (λi _m=>(7,Ab (i:Nat))::_m) (λi w=>i<=l.length/\TM [] l=TM (l.take i) (l.drop i)/\Aa B w I N) (λi=>l.length-i) 0 ⟨Y4 _,O,d⟩ ?_);rintro i w ⟨hi,f,d⟩;refine gN 1 ?_ ?_<;>intro C
 ·obtain⟨a,k⟩:∃a,l[i]?=some a:=⟨_,Y2 om⟩
  obtain⟨p,o,hx⟩:=Be (cells:=EM) (λ_=>rfl) u k;subst o;have j:=q a (Y7 k);have n:l.drop i=a::l.drop (i+1):=by rw[Ym om,(Y1.1 k).2]
  rw[n]at f;have t:(l.take i).length=i:=by rw[Yl];omega
  refine gH 8 ?_;intro g w d;refine gE 0 (Xqs a.1 j.1) ?_;intro w d;refine gH 4 (.Au (T:=λw=>Aa B w I (Ac g [S a.1,S a.2] 124::N)) O O O func457 O (λc=>(X6 (.gd c O) X4)) O (λc=>Xjh a.2 j.2 _ d) d ?_);clear d;rintro w d;refine gH 5 (.Aj O O (λc=>.JR (.gd c O) (.gd c O) om om Iq Ij) O ?_);rw[show((i:Nat):Int).toNat=(l.take i).length by rw[t];(try rw[Yd]),vy];have m:∀w,Aa B w I (Ac g [S a.1,S a.2] 124::N)->Calls prog 382 #[.slice (some p) (l.take i).length cap,.func (.func 478) #[] [ptr g 0].toArray] w (AY λv w'=>v=.bool ((l.take i).any λb=>b.1==a.1)/\Aa B w' I (Ac g [S a.1,S a.2] 124::N)):=λw d=>Xbg (some p) cap (l.take i) om (λb=>b.1==a.1) 478 _ func478 O [ptr g 0] (Ac g [S a.1,S a.2] 124::N) (λw h=>R3 (cells:=EM) (λ_=>rfl) h (eo u i om)) (λr E w h=>Xy1 r a g N h) d
  refine gH 1 (.Au (T:=λw=>Aa B w I (Ac g [S a.1,S a.2] 124::N)) O O O func382 O (λc=>(X6 (.gd c O) (X6 (.gd c O) X4))) O (λc=>m w d) d ?_);clear d;rintro w d;refine gM 1 ?_ ?_<;>intro e x
  ·refine gG 1 (⟨Yc Value.bool ?_,d.s⟩);rw[f,TM]
   revert e
   cases HI a.1<;>cases TR a.2<;>cases((l.take i).any λb=>b.1==a.1)<;>simp
  refine gG 2 (rd (i+1) ⟨om,?_,d.y 0 1⟩);rw[f,TM,Yv,k,DE];simp only[EB,nD]at e
  rw[e.1.1,e.1.2,e.2];rfl
 exact gG 1 ⟨Yc Value.bool (by rw[f,Yb om];rfl),d⟩
theorem xh{m:Px}(h:MK[i]?=some m):(rq.drop (i*2)).take 2=[S m.1,S m.2]/\(∃c,m.1=[c])/\m.2.length<=6/\([m.1.headD 0]==m.2)=false:=by
 match i,h with
 | 0,h=>cases h;exact⟨O,⟨_,O⟩,de,de⟩
 | 1,h=>cases h;exact⟨O,⟨_,O⟩,de,de⟩
 | 2,h=>cases h;exact⟨O,⟨_,O⟩,de,de⟩
 | 3,h=>cases h;exact⟨O,⟨_,O⟩,de,de⟩
 | 4,h=>cases h;exact⟨O,⟨_,O⟩,de,de⟩
 | i+5,h=>simp[MK]at h
theorem kR(s:Lu)(e:s.length<=10000):∀(i:Nat),i<=5->((MK.take i).foldl Iu s).length<=100000000:=by
 have h:∀(i:Nat),i<=5->((MK.take i).foldl Iu s).length<=6^i*s.length:=by
  intro i
  induction i with
  | zero=>intro _;simp
  | succ i f =>
   intro hi;obtain⟨m,d⟩:∃m,MK[i]?=some m:=⟨_,Y2 (by show i<5;omega)⟩
   rw[Yv,d,DE,M7];show(K4 _ m.2 _).length<=_
   have b:=Xwn (m.1.headD 0) m.2 (xh d).2.2.1 ((MK.take i).foldl Iu s);have a:=f om;have c:6*((MK.take i).foldl Iu s).length<=6*(6^i*s.length):=Nat.mul_le_mul_left 6 a;rw[T9]
   calc _<=_:=b
    _<=_:=c
    _=_:=by rw[<-Jr,FZ 6]
 intro i hi;have b:=h i hi;have a:6^i<=6^5:=aV de hi;have c:6^i*s.length<=6^5*10000:=uy a e;omega
theorem Xna(s:Lu)(m:Px)(g:MK[i]?=some m)(h:s.length<=100000000)(d:Kx I)(N:La)(e:Aa B w I N):Calls prog 458 #[S s,S m.1,S m.2] w (AY λv w'=>v=S (Iu s m)/\Aa B w' I N):=by
 obtain⟨_,⟨c,f⟩,b,a⟩:=xh g;unfold Iu;rw[f]at a ⊢;exact Xnb s m.2 c h b a d N e
theorem Xh3(s:Lu)(g:s.length<=10000)(e:Kx I)(N:La)(a:Aa B w I N):Ce B I N 401 [S s] w (S (Ea s)):=by
 refine gG 1 (.val (.B5 (.of O) a e.FC isAgg518 sizeOf518 O (λ_ _ h=>h)) O (gG 1 (.lk [5] (σ:=Nat) (λi _m=>(0,S ((MK.take i).foldl Iu s))::(6,Ab (i:Nat))::_m) (λi w=>i<=5/\Aa B w I N) (λi=>5-i) 0 ⟨Y4 _,a⟩ ?_)));rintro i w ⟨hi,a⟩;refine gN 1 ?_ ?_<;>intro f
 ·obtain⟨m,c⟩:∃m,MK[i]?=some m:=⟨_,Y2 (by show i<5;omega)⟩
  have d:=xh c;have b:((MK.take i).foldl Iu s).length<=100000000:=kR s g i om;refine gG 0 ?_;refine .val (Ex.QL (m:=5) (us:=[S m.1,S m.2]) (.of O) (.of O) om om underlying518 Ij Zk (by rw[Yd];exact d.1) (by rw[Yd];show i*2+2<=10;omega)) O ?_;refine gH 7 ?_;intro j w a;refine gE 0 (Xna _ m c b e) ?_;intro w a;refine gG 3 (⟨i+1,⟨?_,O,O,trivial⟩,⟨om,a.y 0 1⟩,om⟩);show some (S _)=some _
  rw[Yv,c,DE,M7];rfl
 refine gG 2 (⟨?_,a⟩);rw[show i=5 by omega,<-Xv2];rfl
def Bt:Nat->Im->List Value->Nd->Prop
 | 0,_,_,_=>False
 | d+1,I,cs,n=>n.name.length<=10000/\n.text.length<=10000/\n.attrs.length<=10000/\n.kids.length<=10000/\(∀a∈n.attrs,a.1.length<=10000/\a.2.length<=10000)/\∃(b:Option Addr) (c:Nat) (ka:Option Addr) (ck:Nat) (xs:List (List Value)),cs=[S n.name,.slice b n.attrs.length c,S n.text,.slice ka n.kids.length ck]/\n.attrs.length<=c/\n.kids.length<=ck/\RS I b 2 n.attrs.length (X2 EM n.attrs)/\RS I ka 4 n.kids.length xs.flatten/\xs.length=n.kids.length/\(∀x∈xs,x.length=4)/\∀(i:Nat) x k,xs[i]?=some x->n.kids[i]?=some k->Bt d I x k
theorem Bt.mono(f:Le I J):∀{d:Nat} {cs:Lv} {n:Nd},Bt d I cs n->Bt d J cs n
 | 0,_,_,h=>h
 | d+1,cs,n,h=>by
  obtain⟨l,m,o,p,q,g,j,ka,ck,xs,r,s,t,u,a,b,c,e⟩:=h;exact⟨l,m,o,p,q,g,j,ka,ck,xs,r,s,t,u.mono f,a.mono f,b,c,λi x k hx v=>(e i x k hx v).mono f⟩
theorem Bt.cells:∀{d:Nat} {cs:Lv} {n:Nd},Bt d I cs n->∃(s1:Lu) (a:Oa) (g e:Nat) (j:Lu) (b:Oa) (i f:Nat),cs=[S s1,.slice a g e,S j,.slice b i f]
 | 0,_,_,h=>h.elim
 | d+1,cs,n,h=>by
  obtain⟨m,o,p,q,r,k,l,ka,ck,xs,c,_⟩:=h;exact⟨_,_,_,_,_,_,_,_,c⟩
theorem iU{xs:List Lv}(c:RS I ka 4 m xs.flatten)(e:xs.length=m)(b:∀x∈xs,x.length=4){x:Lv}(hx:xs[i]?=some x):∃q,ka=some q/\At I (q.add (i*4)) x:=by
 obtain⟨q,rfl,d⟩:=c.2 (oh ((Y1.1 hx).1));refine⟨q,O,?_⟩;have a:=sr (d.add (i*4)) 4;rw[ZY xs b i x hx]at a;exact a
theorem Xin{f:Int->Nd->Option Int}(b:∀l n m,0<=l->f l n=some m->0<=m/\m<=l):∀(g:List Nd) (l m:Int),0<=l->Kb f l g=some m->0<=m/\m<=l
 | [],l,m,a,h=>by cases h;exact⟨a,uD _⟩
 | k::r,l,m,a,h=>by
  rw[Kb]at h;split at h
  ·cases h
  ·rename_i i c
   have d:=b _ _ _ a c;have e:=Xin b r i m d.1 h;exact⟨e.1,om⟩
theorem oJ:∀(d:Nat) (l:Int) (n:Nd) (m:Int),0<=l->CD d l n=some m->0<=m/\m<=l
 | 0,_,_,_,_,h=>by cases h
 | d+1,l,n,m,a,h=>by
  rw[CD]at h;split at h
  ·cases h
  ·rename_i b
   have:=Xin (λl n m a h=>oJ d l n m a h) n.kids (l-1) m om h
   exact⟨this.1,om⟩
theorem Xyl:∀(d:Nat) (n:Nd) (cs:Lv) (f left:Int) (o:Nat) (B w:Wo) (I:Im) (N:La),1<=f->f+(d:Int)=9->0<=left->left<=1000->Bt d I cs n->Aa B w I (Ac o [Ab (left)] 3::N)->
  Cz 400 [.agg cs.toArray,Ab f,ptr o 0] w λv w'=>∃l2,v=.bool (CD d left n).isSome/\(CD d left n=none\/CD d left n=some l2)/\Aa B w' I (Ac o [Ab (l2)] 3::N):=by
 intro d
 induction d with
 | zero=>intro n cs f left o B w I N _ _ _ _ L;exact L.elim
 | succ d ih =>
  intro n cs f left o B w I N hp hd h0 h1 L c;obtain⟨an,ao,aj,am,Q,E,F,ka,ck,xs,rfl,U,ak,M,P,Z,Y,K⟩:=L;refine gH 14 ?_;intro G w c;refine gH 5 (.Au (T:=λw=>Aa B w I (Ac G [S n.name,.slice E n.attrs.length F,S n.text,.slice ka n.kids.length ck] 140::Ac o [Ab (left-1)] 3::N)) O O O func455 O (λg=>(X6 (.gd g O) X4)) O (λg=>Xqs n.name om _ c) c ?_);clear c;rintro w c;refine gH 5 (.Au (T:=λw=>Aa B w I (Ac G [S n.name,.slice E n.attrs.length F,S n.text,.slice ka n.kids.length ck] 140::Ac o [Ab (left-1)] 3::N)) O O O func456 O (λg=>(X6 (.gd g O) X4)) O (λg=>Ml E F n.attrs U om (λa h=>by have:=Q a h;omega) M _ c) c ?_);clear c;rintro w c;refine gH 5 (.Au (T:=λw=>Aa B w I (Ac G [S n.name,.slice E n.attrs.length F,S n.text,.slice ka n.kids.length ck] 140::Ac o [Ab (left-1)] 3::N)) O O O func457 O (λg=>(X6 (.gd g O) X4)) O (λg=>Xjh n.text om _ c) c ?_);clear c;rintro w c;refine gM 13 ?_ ?_<;>intro b ac
  ·refine gG 1 ?_;have u:CD (d+1) left n=none:=by
    rw[CD,Y9];simp only[EC,Y8,PR,dq1]at b
    rcases b with (((h|h)|h)|h)|h
    ·rcases h with h|h
     ·push_cast at hd;omega
     ·left;omega
    ·exact .inr (.inl h)
    ·exact .inr (.inr (.inl h))
    ·exact .inr (.inr (.inr (.inl h)))
    ·refine .inr (.inr (.inr (.inr ⟨su h.1,λe=>?_⟩)));have h2:=h.2;rw[e]at h2;simp at h2
   refine⟨left-1,by rw[u];rfl,.inl u,c.s⟩
  refine gG 4 ?_;simp only[EB,Zx,nD,dq2]at b
  have u:CD (d+1) left n=Kb (CD d) (left-1) n.kids:=by
   rw[CD,Y3];rintro(e|e|e|e|⟨e1,e2⟩)
   ·omega
   ·rw[e]at b;simp at b
   ·rw[e]at b;simp at b
   ·rw[e]at b;simp at b
   ·rcases b.2 with H|H
    ·simp at H;exact e1 H
    ·have:=K6.2 e2;omega
  replace c:Aa B w I (Ac o [Ab (left-1)] 3::N):=c.drop (k:=0) O;refine .lk [1,2,52,53] (σ:=Nat×Int) (λ(i,l) _m=>(54,Ab (i:Nat))::_m) (λ(i,l) w=>i<=n.kids.length/\Kb (CD d) (left-1) n.kids=Kb (CD d) l (n.kids.drop i)/\0<=l/\l<=1000/\Aa B w I (Ac o [Ab (l)] 3::N)) (λ(i,l)=>n.kids.length-i) (0,left-1) ⟨Y4 _,O,om,om,c⟩ ?_;rintro⟨i,l⟩ w ⟨hi,r,t,J,c⟩;refine gN 1 ?_ ?_<;>intro ad
  ·obtain⟨k,hk⟩:∃k,n.kids[i]?=some k:=⟨_,Y2 om⟩
   obtain⟨x,D⟩:∃x,xs[i]?=some x:=⟨_,Y2 om⟩
   have A:=K i x k D hk;obtain⟨q,X,hx⟩:=iU P Z Y D;subst X;obtain⟨s1,a1,n1,m1,s2,a2,n2,m2,R⟩:=A.cells;subst R;have C:n.kids.drop i=k::n.kids.drop (i+1):=by rw[Ym om,(Y1.1 hk).2]
   refine gH 8 ?_;intro b8 w c;refine gP 0 [1] (ih k _ _ l o B _ I _ om (by push_cast at hd;omega) t J A) ?_;rintro _ w ⟨l2,rfl,V,c⟩;refine gM 1 ?_ ?_<;>intro j ae
   ·refine gG 1 ?_;have p:CD d l k=none:=by
     cases he:CD d l k with
     | none=>rfl
     | some z=>rw[he]at j;simp at j
    have m:CD (d+1) left n=none:=by rw[u,r,C,Kb,p]
    exact⟨l2,by rw[m];rfl,.inl m,c.s⟩
   refine gG 2 ?_;have p:CD d l k=some l2:=by
    rcases V with e|e
    ·rw[e]at j;simp at j
    ·exact e
   have W:=oJ d l k l2 t p;refine A_ (i+1,_) O ⟨om,?_,W.1,om,(c.y 1 1)⟩;rw[r,C,Kb,p]
  refine gG 1 ?_;have m:CD (d+1) left n=some l:=by rw[u,r,Yb om];rfl
  exact⟨l,by rw[m];rfl,.inr m,c⟩
theorem Mk(n:Nd)(cs:Lv)(c:Bt 8 I cs n)(N:La)(a:Aa B w I N):Ce B I N 311 [.agg cs.toArray] w (.bool (CD 8 200 n).isSome):=by
 obtain⟨s1,f,k,i,m,g,l,j,b⟩:=c.cells;subst b;refine gH 5 ?_;intro b1 d w a;refine gP 0 [] (Xyl 8 n _ 1 200 d B _ I _ de de de de c) ?_;rintro _ w ⟨h,rfl,e,a⟩;exact gG 1 ⟨O,a.s⟩
theorem bF{l:List Px}(b:RS I a 2 l.length (X2 EM l)){x:Px}(hx:l[i]?=some x):∃q,a=some q/\At I (q.add (i*2)) [S x.1,S x.2]:=Be (cells:=EM) (s:=2) (λ_=>rfl) b hx
theorem YR:∀(d:Nat) (n:Nd) (cs:Lv) (e:Nat) (p v:Va) (b:Lu) (B w:Wo) (I:Im) (N:La),Kx I->Bt d I cs n->(p=.pointer none\/p=ptr e 0)->(b++Cb d n).length<=1000000->Aa B w I (Ac e [p,v] 309::An 5 1 v (b).length (Ao (b))::N)->
  Calls prog 312 #[ptr e 0,.agg cs.toArray] w (AY λu w'=>u=.tuple #[]/\∃Z,Aa B w' I (Ac e [ptr e 0,Z] 309::An 5 1 Z (b++Cb d n).length (Ao (b++Cb d n))::N)):=by
 intro d
 induction d with
 | zero=>intro n cs e p v b B w I N _ C;exact C.elim
 | succ d ih =>
  intro n cs e p v b B w I N y C hp U c;obtain⟨ak,am,ad,aj,G,Q,T,ka,ck,xs,rfl,ae,af,D,E,M,L,A⟩:=C;have j:(b++([60]++n.name)++(n.attrs.map G_).flatten).length<=1000000:=by simp only[Cb,Y0,Y5,Yh]at U ⊢;omega
  have o:((b++([60]++n.name)++(n.attrs.map G_).flatten)++([62]++Ea n.text)++(n.kids.map (Cb d)).flatten).length<=1000000:=by simp only[Cb,Y0,Y5,Yh]at U ⊢;omega
  refine gH 5 ?_;intro R w c;refine gC 0 (ZW e p v b ([60]++n.name) hp _ (c.x [2,2]) (by simp only[Y0,Y5,Yh]at j ⊢;omega)) ?_;rintro _ w ⟨rfl,v1,c⟩;try dsimp only[List.eraseIdx]at c
  have g:=c;clear c;refine gG 4 (.lk [0,3,14,15] (σ:=Nat×Lu×Va) (λ(i,q,v) _m=>(16,Ab (i:Nat))::_m) (λ(i,q,v) w=>i<=n.attrs.length/\q++((n.attrs.drop i).map G_).flatten=(b++([60]++n.name)++(n.attrs.map G_).flatten)/\Aa B w I (Ac e [ptr e 0,v] 309::An 5 1 v (q).length (Ao (q))::Ac R [S n.name,.slice Q n.attrs.length T,S n.text,.slice ka n.kids.length ck] 140::N)) (λ(i,q,v)=>n.attrs.length-i) (0,b++([60]++n.name),v1) ⟨Y4 _,O,g⟩ ?_);rintro⟨i,q,v⟩ w ⟨hi,f,c⟩;clear g;refine gN 1 ?_ ?_<;>intro W
  ·obtain⟨a,F⟩:∃a,n.attrs[i]?=some a:=⟨_,Y2 om⟩
   obtain⟨qa,l,hx⟩:=bF D F;subst l;have V:=G a (Y7 F);have ah:=oS a.2;have h:n.attrs.drop i=a::n.attrs.drop (i+1):=by rw[Ym om,(Y1.1 F).2]
   have r:q.length<=1000000:=by have:=Yc List.length f;simp only[Y0]at this j;omega
   refine gG 4 ?_;intro b5 w c;refine gD [0] [] [0,1,2,3,4,5,6,7,8,9,10] ?_;intro w c;refine gE 7 (Xh3 a.2 om y) ?_;intro w c;refine gC 2 (ZW e (ptr e 0) v q (((([32]++a.1)++[61,34])++Ea a.2)++[34]) (.inr O) _ (c.x [2,2]) (by simp only[Y0,Y5,Yh];omega)) ?_;rintro _ w ⟨rfl,P,c⟩;try dsimp only[List.eraseIdx]at c
   refine gG 2 (rd (i+1,q++(((([32]++a.1)++[61,34])++Ea a.2)++[34]),P) ⟨om,?_,(c.z [3,2,2] 3 1)⟩);rw[<-f,h];simp[G_]
  have J:q=(b++([60]++n.name)++(n.attrs.map G_).flatten):=by rw[<-f,Yb om];simp
  subst J;have ai:=oS n.text;refine gE 3 (Xh3 n.text om y) ?_;intro w c;refine gC 1 (ZW e (ptr e 0) v (b++([60]++n.name)++(n.attrs.map G_).flatten) ([62]++Ea n.text) (.inr O) _ (c.x [1,1]) (by simp only[Y0,Y5,Yh]at j ⊢;omega)) ?_;rintro _ w ⟨rfl,v3,c⟩;try dsimp only[List.eraseIdx]at c
  have g:=c;clear c;refine gG 4 (.lk [0,3,39,40] (σ:=Nat×Lu×Va) (λ(i,q,v) _m=>(41,Ab (i:Nat))::_m) (λ(i,q,v) w=>i<=n.kids.length/\q++((n.kids.drop i).map (Cb d)).flatten=((b++([60]++n.name)++(n.attrs.map G_).flatten)++([62]++Ea n.text)++(n.kids.map (Cb d)).flatten)/\Aa B w I (Ac e [ptr e 0,v] 309::An 5 1 v (q).length (Ao (q))::Ac R [S n.name,.slice Q n.attrs.length T,S n.text,.slice ka n.kids.length ck] 140::N)) (λ(i,q,v)=>n.kids.length-i) (0,(b++([60]++n.name)++(n.attrs.map G_).flatten)++([62]++Ea n.text),v3) ⟨Y4 _,O,g⟩ ?_);rintro⟨i,q,v⟩ w ⟨hi,f,c⟩;clear g;refine gN 1 ?_ ?_<;>intro X
  ·refine gG 0 ?_;obtain⟨k,Y⟩:∃k,n.kids[i]?=some k:=⟨_,Y2 om⟩
   obtain⟨x,t⟩:∃x,xs[i]?=some x:=⟨_,Y2 om⟩
   have m:=A i x k t Y;obtain⟨qa,l,hx⟩:=iU E M L t;subst l;obtain⟨s1,a1,n1,m1,s2,a2,n2,m2,H⟩:=m.cells;subst H;have h:n.kids.drop i=k::n.kids.drop (i+1):=by rw[Ym om,(Y1.1 Y).2]
   have r:(q++Cb d k).length<=1000000:=by have:=Yc List.length f;rw[h]at this;simp only[Yu,Fx,Y0]at this o ⊢;omega
   refine gH 6 ?_;intro b7 w c;refine gP 0 [2,2] (ih k [S s1,.slice a1 n1 m1,S s2,.slice a2 n2 m2] e (ptr e 0) v q B _ I _ y m (.inr O) r) ?_;rintro _ w ⟨rfl,P,c⟩;refine gG 2 (rd (i+1,q++Cb d k,P) ⟨om,?_,(c.z [3,2,2] 3 1)⟩);rw[<-f,h];simp[G_]
  refine gG 0 ?_;have K:q=((b++([60]++n.name)++(n.attrs.map G_).flatten)++([62]++Ea n.text)++(n.kids.map (Cb d)).flatten):=by rw[<-f,Yb om];simp
  subst K;refine gC 5 (ZW e (ptr e 0) v ((b++([60]++n.name)++(n.attrs.map G_).flatten)++([62]++Ea n.text)++(n.kids.map (Cb d)).flatten) (([60,47]++n.name)++[62]) (.inr O) _ (c.x [1,1]) (by simp only[Y0,Y5,Yh]at o ⊢;omega)) ?_;rintro _ w ⟨rfl,v5,c⟩;try dsimp only[List.eraseIdx]at c
  refine gG 0 ?_;have he:((b++([60]++n.name)++(n.attrs.map G_).flatten)++([62]++Ea n.text)++(n.kids.map (Cb d)).flatten)++(([60,47]++n.name)++[62])=b++Cb (d+1) n:=by simp[Cb]
  rw[he]at c;exact⟨O,v5,c.s⟩
theorem Xjg(n:Nd)(cs:Lv)(g:Kx I)(c:Bt 8 I cs n)(i:(Cb 8 n).length<=1000000)(N:La)(a:Aa B w I N):Ce B I N 210 [.agg cs.toArray] w (.tuple #[S (if(CD 8 200 n).isSome=true then Cb 8 n else[]),Ab (if(CD 8 200 n).isSome=true then 0 else 1)]):=by
 obtain⟨s1,l,q,o,t,m,r,p,d⟩:=c.cells;subst d;refine gH 4 ?_;intro b1 w a;refine gE 0 (Mk n _ c) ?_;intro w a;refine gM 1 ?_ ?_<;>intro b j
 ·refine gG 2 (⟨?_,a.s⟩);rw[Y3 (su b),Y3 (su b)]
 refine gG 1 ?_;intro f w a;replace a:=(a.Ai 5 1).pick 1 O;try dsimp only[List.eraseIdx]at a
 refine gP 1 [1,1] (YR 8 n _ f _ _ [] B _ I _ g c (.inl O) (by rw[Db];exact i)) ?_;rintro _ w ⟨rfl,k,a⟩;rw[Db]at a;have e:Cb 8 n≠[]:=by simp[Cb]
 refine gP 0 [] (rL f _ k _ (λh=>Yz h e) _) ?_;rintro _ w ⟨rfl,a⟩;refine gG 2 (⟨?_,a.s⟩);rw[Y9 (su b),Y9 (su b)]
end Go.Proofs.W9
namespace Xm
open Ul Pc Gk DN Tk Tr
def SM:Lu:=[115,97,109,108,112,58,76,111,103,111,117,116,82,101,113,117,101,115,116]
def lN:Lu:=[73,68]
def lO:Lu:=[76,82,45]
def lS:Lu:=[86,101,114,115,105,111,110]
def lR:Lu:=[50,46,48]
def OT:Lu:=[73,115,115,117,101,73,110,115,116,97,110,116]
def lP:Lu:=[115,97,109,108,58,78,97,109,101,73,68]
def IF:Lu:=[64,78,79,84,95,85,83,69,68,64]
def lQ:Lu:=[115,97,109,108,112,58,83,101,115,115,105,111,110,73,110,100,101,120]
def M1:Lu:=[60,115,97,109,108,112,58,76,111,103,111,117,116,82,101,113,117,101,115,116,32,73,68,61,34,76,82,45]
def M2:Lu:=[34,32,86,101,114,115,105,111,110,61,34,50,46,48,34,32,73,115,115,117,101,73,110,115,116,97,110,116,61,34]
def M3:Lu:=[34,62,60,115,97,109,108,58,78,97,109,101,73,68,62,64,78,79,84,95,85,83,69,68,64,60,47,115,97,109,108,58,78,97,109,101,73,68,62,60,115,97,109,108,112,58,83,101,115,115,105,111,110,73,110,100,101,120,62]
def M4:Lu:=[60,47,115,97,109,108,112,58,83,101,115,115,105,111,110,73,110,100,101,120,62,60,47,115,97,109,108,112,58,76,111,103,111,117,116,82,101,113,117,101,115,116,62]
def JV(c:Ui):Bool:=E9 c||(48<=c&&c<=57)||c==45
def Tok(s:Lu):Prop:=∀c∈s,JV c=true
theorem Xqi(c:Ui)(h:JV c=true):(c≠38/\c≠60/\c≠62/\c≠34/\c≠39)/\eC c=true/\c≠32:=by
 have:=Xc (p:=λc=>!JV c||((c !=38&&c !=60&&c !=62&&c !=34&&c !=39)&&eC c&&c !=32)) dk c
 rw[h]at this;simp only[jK,K9,Y8,bne_iff_ne,ne_eq]at this
 obtain⟨⟨⟨⟨⟨⟨a,b⟩,d⟩,e⟩,f⟩,g⟩,i⟩:=this;exact⟨⟨a,b,d,e,f⟩,g,i⟩
theorem kG{c:Ui}{d:Nat}(h:hx c=some d):JV c=true:=by
 have:=Xc (p:=λc=>!(hx c).isSome||JV c) dk c
 rw[h]at this;simpa using this
theorem NP:∀(s:Lu) (n d:Nat),HV n s=some d->Tok s
 | [],_,_,_=>λc a=>by simp at a
 | c::r,n,d,h=>by
  rw[HV]at h;cases a:hx c with
  | none=>rw[a]at h;cases h
  | some x =>
   rw[a]at h;intro y b;rcases Yp.1 b with rfl|b
   ·exact kG a
   ·exact NP r _ _ h y b
theorem Rf{s:Lu}{d:Nat}(h:Ey s=some (k,d)):Tok s:=by
 unfold Ey at h;split at h
 ·cases h
 ·rename_i l
  obtain⟨x,hx,e⟩:=K5.1 h;have m:=NU (AP [45] s);have j:Tok (AP [45] s):=by
   rw[NT l]
   have:=(by decide:∀k:Fin 7,∀c∈pre k.val,JV c=true) ⟨Pz (AP [45] s),om⟩
   exact this
  unfold TO at hx;split at hx
  ·rename_i f
   have i:=NP _ _ _ hx;intro c b;rw[<-fl [45] s]at b;rcases Ys.1 b with b|b
   ·exact j c b
   ·cases g:Xn [45] s with
    | nil=>rw[g]at f;simp at f
    | cons a r =>
     rw[g]at b i;rcases Yp.1 b with rfl|b
     ·have:=QF (Ar:=[45]) (c:=c) (by rw[g];rfl)
      have:c=45:=su this
      rw[this];decide
     ·exact i c b
  ·cases hx
theorem Ny(n:Nat):Tok (Go.Lib.decDigits n):=by
 intro c a
 have:=Dj.1 (Mg n).2.1 c a
 unfold JV;unfold Km at this;rw[this];simp
theorem Tok.Ea{s:Lu}(h:Tok s):Ea s=s:=ox λc a=>(Xqi c (h c a)).1
theorem Tok.sh{s:Lu}(h:Tok s):TR s=true:=Dj.2 λc a=>(Xqi c (h c a)).2.1
theorem VV{t:Lu}(h:Tok t):Tok (lO++t):=λc a=>by
 rcases Ys.1 a with a|a
 ·exact(by decide:∀c∈lO,JV c=true) c a
 ·exact h c a
def fO(t:Lu)(n:Nat):Nd:=.mk SM [(lN,lO++t),(lS,lR),(OT,Go.Lib.decDigits n)] [] [.mk lP [] IF [],.mk lQ [] t []]
def RZ(t:Lu)(n:Nat):Lu:=M1++t++M2++Go.Lib.decDigits n++M3++t++M4
theorem Xx4{t:Lu}(h:Tok t)(n:Nat):Cb 8 (fO t n)=RZ t n:=by
 have a:=h.Ea;have b:=(VV h).Ea;have c:=(Ny n).Ea;have d:Ea lR=lR:=by decide+kernel
 have e:Ea IF=IF:=by decide+kernel
 have f:Ea []=[]:=rfl;simp only[Cb,fO,Nd.name,Nd.attrs,Nd.text,Nd.kids,Yu,ED,G_,a,b,c,d,e,f]
 unfold RZ SM lN lO lS lR OT lP IF lQ M1 M2 M3 M4
 simp
theorem cH{t:Lu}(h:Tok t)(n:Nat):CD 8 200 (fO t n)=some 197:=by
 have a:=h.sh;have b:=(VV h).sh;have c:=(Ny n).sh;have g:HI SM=true:=by decide+kernel
 have i:HI lP=true:=by decide+kernel
 have j:HI lQ=true:=by decide+kernel
 have k:TR IF=true:=by decide+kernel
 have l:TR []=true:=rfl;have m:HI lN=true:=by decide+kernel
 have o:HI lS=true:=by decide+kernel
 have p:HI OT=true:=by decide+kernel
 have q:TR lR=true:=by decide+kernel
 have d:(lN==lS)=false:=de
 have e:(lN==OT)=false:=de
 have f:(lS==OT)=false:=de
 simp[CD,Kb,fO,Nd.name,Nd.attrs,Nd.text,Nd.kids,TM,a,b,c,g,i,j,k,l,m,o,p,q,d,e,f]
structure Nt where
 ticket:Lu
 url:Lu
 tries:Int
 next:Int
deriving DecidableEq
def iX(t:Lu):Bool:=QN t 2||QN t 3
def FO(n:Nt):Bool:=iX n.ticket&&decide ((n.url.length:Int)<=100)&&decide (0<=n.tries)&&decide (n.tries<=9)&&decide (0<=n.next)&&decide (n.next<=1099511627776)
theorem iL{t:Lu}(h:iX t=true):Tok t/\t.length<=23:=by
 unfold iX QN at h;cases a:Ey t with
 | none=>rw[a]at h;simp at h
 | some x=>obtain⟨k,d⟩:=x;exact⟨Rf a,(oo a).2.2.2.1⟩
end Xm
namespace Go.Proofs.W9
open Gk Ul Pc DN Xm Tr
open Tryz
theorem Xim{c:Int->Lu->Option (Nd×Lu×Int)}(b:∀l s k r e,c l s=some (k,r,e)->r.length<s.length):∀(f g:Nat) (left:Int) (s:Lu) (a:List Nd),s.length<f->s.length<g->Jk c f left s a=Jk c g left s a
 | 0,_,_,_,_,h,_=>by omega
 | _+1,0,_,_,_,_,h=>by omega
 | f+1,g+1,left,s,a,i,j=>by
  rw[Jk,Jk];split
  ·rfl
  ·split
   ·rfl
   ·rename_i k r l d
    have:=b _ _ _ _ _ d
    exact Xim b f g _ _ _ om om
abbrev ClQ:=Lu×Oa×Nat×Nat×Lu×Oa×Nat×Nat
abbrev clC(c:ClQ):Lv:=[S c.1,.slice c.2.1 c.2.2.1 c.2.2.2.1,S c.2.2.2.2.1,.slice c.2.2.2.2.2.1 c.2.2.2.2.2.2.1 c.2.2.2.2.2.2.2]
theorem Bt.name:∀{d:Nat} {c:ClQ} {n:Nd},Bt d I (clC c) n->c.1=n.name
 | 0,_,_,h=>h.elim
 | d+1,c,n,h=>by
  obtain⟨f,g,i,j,k,b,e,ka,ck,xs,a,_⟩:=h;injection a with a;injection a with a;injection a with a;simpa using a
theorem Xo5{α:Type}(b:α->Bool):∀(l:List α) (k:Nat),(Eu b l k=-1/\∀x∈l,b x=false)\/∃j x,Eu b l k=((k+j:Nat):Int)/\l[j]?=some x/\b x=true/\∀(i:Nat) y,i<j->l[i]?=some y->b y=false
 | [],_=>.inl ⟨O,by simp⟩
 | a::l,k=>by
  rw[Eu];cases e:b a with
  | true=>exact .inr ⟨0,a,by simp,O,e,λ_ _ h=>Yz h om⟩
  | false =>
   rcases Xo5 b l (k+1)with⟨c,d⟩|⟨j,x,c,d,g,m⟩
   ·refine .inl ⟨su c,λx hx=>?_⟩;rcases Yp.1 hx with rfl|hx
    ·exact e
    ·exact d x hx
   ·refine .inr ⟨j+1,x,by simp only[Sk,if_false];rw[c];congr 1;omega,su d,g,λi y hi f=>?_⟩;cases i with
    | zero=>cases f;exact e
    | succ i=>exact m i y om (su f)
open Tk
def KE:List Lu:=[[],pre 1,pre 2,pre 3,pre 4,pre 5,pre 6]
def Bf(I:Im):Prop:=At I (ad 3 0) (KE.map S)
theorem Bf.mono(h:Bf I)(a:Le I J):Bf J:=At.mono h a
theorem ed(h:k<7):(((KE.map S).drop (k*1)))[0]?=some (S (pre k)):=by
 match k,h with
 | 0,_=>rfl
 | 1,_=>rfl
 | 2,_=>rfl
 | 3,_=>rfl
 | 4,_=>rfl
 | 5,_=>rfl
 | 6,_=>rfl
def Fe(k:Int):Lu:=if k<1\/6<k then[]else pre k.toNat
theorem Ex.B8{g:Option (Nat×Bool)}{t e:TypeId}{x:Operand}{s:Nat}(hx:Ev n L x (.pointer (some p)))(f:P.underlying t=some (.array m e))(j:∀w,(Go.sizeOf e).run P w=.ok s w):Ex P n L w ⟨d,.slice t x none none none,ty,pos,af,g⟩ (.slice (some (if m=0 then p else p.add (0*s))) (m-0) (m-0)) w:=λa i=>by
 obtain⟨b,c⟩:=xb f;have h:=run_sliceAt_array_all (P:=P) w t p (by rw[b,c];exact f);rw[b,c,j]at h;simp[execOp,hx a i,h,slicedAt]
def K1(p:List UInt8):List (List UInt8)->Nat->Int
 | [],_=>-1
 | x::r,i=>if p=x then(i:Int)else K1 p r (i+1)
theorem wC(p:Lu):∀(n:Nat) (r:List Lu) (i:Nat),(∀(j:Nat) x,j<n->r[j]?=some x->p≠x)->K1 p r i=K1 p (r.drop n) (i+min n r.length)
 | 0,r,i,_=>by simp
 | n+1,[],i,_=>by simp[K1]
 | n+1,x::r,i,h=>by
  rw[K1,Y3 (h 0 x om O),wC p n r (i+1) (λj y b a=>h (j+1) y om (su a)),Ks,Y5]
  congr 1
  omega
theorem Vw{p:Lu}{l:List Lu}(h:∀(j:Nat) x,j<i->l[j]?=some x->p≠x)(a:l[i]?=some p):K1 p l 0=(i:Int):=by
 have hi:=(Y1.1 a).1;rw[wC p i l 0 h,Yk,M8 om,Ym hi,(Y1.1 a).2,K1,Y9 O]
theorem QK{p:Lu}{l:List Lu}(h:∀(j:Nat) x,l[j]?=some x->p≠x):K1 p l 0=-1:=by
 rw[wC p l.length l 0 (λj x _ hx=>h j x hx),nI];rfl
theorem sB(p:Lu):(1<=K1 p KE 0->Pz p≠0/\K1 p KE 0=(Pz p:Int))/\(¬ 1<=K1 p KE 0->Pz p=0):=by
 unfold KE Pz;simp only[K1]
 by_cases g:p=[]
 ·subst g;exact⟨λh=>by simp at h,λ_=>by decide⟩
 rw[Y3 g]
 by_cases a:p=pre 1
 ·rw[Y9 a,Y9 a];exact⟨λ_=>⟨de,de⟩,λh=>Yz de h⟩
 rw[Y3 a,Y3 a]
 by_cases b:p=pre 2
 ·rw[Y9 b,Y9 b];exact⟨λ_=>⟨de,de⟩,λh=>Yz de h⟩
 rw[Y3 b,Y3 b]
 by_cases c:p=pre 3
 ·rw[Y9 c,Y9 c];exact⟨λ_=>⟨de,de⟩,λh=>Yz de h⟩
 rw[Y3 c,Y3 c]
 by_cases d:p=pre 4
 ·rw[Y9 d,Y9 d];exact⟨λ_=>⟨de,de⟩,λh=>Yz de h⟩
 rw[Y3 d,Y3 d]
 by_cases e:p=pre 5
 ·rw[Y9 e,Y9 e];exact⟨λ_=>⟨de,de⟩,λh=>Yz de h⟩
 rw[Y3 e,Y3 e]
 by_cases f:p=pre 6
 ·rw[Y9 f,Y9 f];exact⟨λ_=>⟨de,de⟩,λh=>Yz de h⟩
 rw[Y3 f,Y3 f];exact⟨λh=>Yz h de,λ_=>rfl⟩
theorem og(a:Oa)(c:Nat)(l:List Lu)(s:l.length<=100000)(p:Lu)(o:RS I a 1 l.length (l.map S))(N:La)(f:Aa B w I N):Ce B I N 325 [.slice a l.length c,S p] w (Ab (K1 p l 0)):=by
 refine gG 4 (.lk [0,1,7] (σ:=Nat) (λi _m=>(8,Ab (i:Nat))::_m) (λi w=>i<=l.length/\(∀(j:Nat) x,j<i->l[j]?=some x->p≠x)/\Aa B w I N) (λi=>l.length-i) 0 ⟨Y4 _,λ_ _ h=>Yz h om,f⟩ ?_);rintro i w ⟨hi,d,f⟩;refine gN 1 ?_ ?_<;>intro r
 ·obtain⟨x,hx⟩:∃x,l[i]?=some x:=⟨_,Y2 om⟩
  obtain⟨q,rfl,t⟩:=o.2 om;have g:((l.map S).drop ((i:Int).toNat*1))[0]?=some (S x):=by rw[Hk];(try rw[Yd]);rw[Dm,ER,Yr,hx];rfl
  refine gH 6 (.val (.BS (.of O) f (t.add _) Bg g) O ?_);refine gM 1 ?_ ?_<;>intro b n
  ·refine gG 2 ?_;have e:p=x:=su b
   subst e;exact⟨by rw[Vw d hx],f⟩
  refine gG 2 (rd (i+1) ⟨om,λj y u k=>?_,f⟩);rcases Yt j i with m|m
  ·exact d j y m k
  ·have e:j=i:=om
   subst e;rw[hx]at k;cases k;simpa using b
 exact gG 1 ⟨by rw[QK (λj x hx=>d j x (oh ((Y1.1 hx).1)) hx)],f⟩
theorem Xhy(k:Int)(c:Bf I)(N:La)(a:Aa B w I N):Ce B I N 418 [Ab k] w (S (Fe k)):=by
 refine gN 7 ?_ ?_<;>intro d
 ·exact gG 1 ⟨by rw[Fe,Y9 om],a⟩
 have b:k.toNat<7:=om
 refine gH 1 (.val (.Dn (i:=k) (.of O) (.of O) om om mV AQ) O (.val (.BS (.of O) a (At.add c _) Bg (ed b)) O ?_));exact gG 1 ⟨by rw[Fe,Y3 om],a⟩
abbrev KB:Lu:=[48,49,50,51,52,53,54,55,56,57,97,98,99,100,101,102]
theorem kF(c:Ui):(match hx c with|some d=>Go.Lib.indexByte KB c=(d:Int)|none=>Go.Lib.indexByte KB c=-1):=by
 have:=Xc (p:=λc=>match hx c with|some d=>Go.Lib.indexByte KB c==(d:Int)|none=>Go.Lib.indexByte KB c == -1) dk c
 cases h:hx c with
 | some d=>rw[h]at this;simpa using this
 | none=>rw[h]at this;simpa using this
theorem Vv{s:Lu}{d:Nat}(hi:i<s.length)(b:HV 0 (s.take i)=some n)(a:hx (at_ s (i:Int))=some d):HV 0 (s.take (i+1))=some (16*n+d):=by
 have:s[i]?=some (at_ s (i:Int)):=D4 hi
 rw[Yv,this,DE,NN,b,gi];simp only[HV,a]
theorem NO:∀(s:Lu) (i n:Nat),i<s.length->hx (at_ s (i:Int))=none->HV n s=none
 | [],i,_,h,_=>by simp at h
 | c::r,0,n,_,h=>by
  rw[HV,show hx c=none from h]
 | c::r,i+1,n,hi,h=>by
  rw[HV];cases hx c with
  | none=>rfl
  | some d=>exact NO r i _ (su hi) (by
    have e:at_ (c::r) ((i+1:Nat):Int)=at_ r (i:Int):=by simp[at_]
    rw[e]at h;exact h)
theorem kZ{d:Nat}(a:d<16):(16*n)||| d=16*n+d:=by
 have:=yb (i:=4) a n
 simpa using this.symm
theorem Xux(s:Lu)(q:s.length<=1000000)(N:La)(f:Aa B w I N):Ce B I N 450 [S s] w (match TO s with|some d=>.tuple #[Bo (d:Nat),.bool true]|none=>.tuple #[Bo 0,.bool false]):=by
 refine gN 5 ?_ ?_<;>intro p
 ·exact gG 2 ⟨by rw[TO,Y3 om],f⟩
 refine gG 4 (.lk [0,11] (σ:=Nat×Nat) (λ(i,n) _m=>(4,Bo (n:Nat))::(12,Ab (i:Nat))::_m) (λ(i,n) w=>i<=s.length/\HV 0 (s.take i)=some n/\n<16^i/\Aa B w I N) (λ(i,n)=>s.length-i) (0,0) ⟨Y4 _,O,de,f⟩ ?_);rintro⟨i,n⟩ w ⟨hi,k,h,f⟩;refine gN 1 ?_ ?_<;>intro l
 ·refine gC 5 (u5 _ _ _) ?_;rintro _ _ ⟨rfl,rfl⟩;have b:=kF (at_ s (i:Int));refine gM 3 ?_ ?_<;>intro c m
  ·refine gG 2 (⟨?_,f⟩);have j:hx (at_ s (i:Int))=none:=by
    cases e:hx (at_ s (i:Int))with
    | none=>rfl
    | some d=>exfalso;rw[e]at b;simp only at b;rw[b]at c;simp at c;omega
   rw[TO,Y9 om,NO s i 0 om j]
  obtain⟨d,e⟩:∃d,hx (at_ s (i:Int))=some d:=by
   cases e:hx (at_ s (i:Int))with
   | none=>exfalso;rw[e]at b;simp only at b;rw[b]at c;simp at c
   | some d=>exact⟨d,O⟩
  rw[e]at b;simp only at b
  have g:=gI e;rw[b];have o:n<16^15:=uo h (aV de om);refine gH 1 (.val (.shl (.of O) (.of O) de de) O ?_);rw[show IntKind.u64.wrap ((n:Int)*2^(4:Int).toNat)=((16*n:Nat):Int)by rw[IntKind.wrap_u64];simp;omega];refine gH 1 (.val (.uF (.of O) B1 Ti (by rw[IntKind.wrap_u64];omega)) O (.val (.qJ (a:=16*n) om om (.of O) (.of O)) O ?_));rw[kZ g];refine gG 3 (A_ (i+1,_) O ⟨om,Vv om k e,?_,f⟩);rw[T9];omega
 refine gG 3 (⟨?_,f⟩);rw[Yo om]at k;rw[TO,Y9 om,k]
theorem wh(s:Lu)(j:s.length<=1000000)(i:AX I)(g:Bf I)(N:La)(b:Aa B w I N):Ce B I N 390 [S s] w (match Ey s with|some (k,d)=>.tuple #[Ab (k:Nat),Bo (d:Nat),.bool true]|none=>.tuple #[Ab 0,Bo 0,.bool false]):=by
 refine gE 4 (rK s 45 j i) ?_;intro w b;refine gE 8 (Xux _ (by have:=Ih [45] s;rw[Y6];omega)) ?_;intro w b;rcases qh:TO ((Xn [45] s).drop 1)with _|d
 ·refine gG 5 (.val (Ex.B8 (m:=7) (.of O) mV AQ) O (gP 1 [] (og _ 7 _ de (AP [45] s) ⟨O,λ_=>⟨_,O,g⟩⟩ N) ?_));rintro _ w ⟨rfl,b⟩;refine gM 7 ?_ ?_<;>intro a c
  ·refine gG 3 (⟨?_,b⟩)
   have:Ey s=none:=by
    unfold Ey;split
    ·rfl
    ·rw[qh];rfl
   rw[this]
  refine gH 5 (.nil (.ret ?_));refine λ_ f=>k8 f O O O ?_
  exfalso;simp at a
 refine gG 5 (.val (Ex.B8 (m:=7) (.of O) mV AQ) O (gP 1 [] (og _ 7 _ de (AP [45] s) ⟨O,λ_=>⟨_,O,g⟩⟩ N) ?_));rintro _ w ⟨rfl,b⟩;refine gM 7 ?_ ?_<;>intro a c
 ·refine gG 3 (⟨?_,b⟩);have e:=(sB (AP [45] s)).2 (by simp at a;omega);rw[Ey,Y9 e]
 refine gG 5 (⟨?_,b⟩);obtain⟨e,h⟩:=(sB (AP [45] s)).1 (by simp at a;omega);rw[Ey,Y3 e,qh,h];rfl
theorem ic(s:Lu)(a:Int)(f:s.length<=1000000)(c:AX I)(e:Bf I)(N:La)(b:Aa B w I N):Ce B I N 294 [S s,Ab a] w (.bool (QN s a)):=by
 refine gE 2 (wh s f c e) ?_;intro w b;rcases gA:Ey s with _|⟨k,d⟩
 ·exact gG 14 ⟨by rw[QN,gA];rfl,b⟩
 exact gG 14 ⟨by rw[QN,gA];rfl,b⟩
theorem we(a of:Int)(w:Wo):Cz 422 [Ab a,Ab of] w λv w'=>v=.bool (Zo a of)/\w=w':=by
 refine gN 4 ?_ ?_<;>intro f
 ·refine gG 3 (⟨Yc Value.bool ?_,O⟩)
  (subst_vars;simp[Zo];done)
 refine gN 2 ?_ ?_<;>intro g
 ·refine gG 3 (⟨Yc Value.bool ?_,O⟩)
  (subst_vars;simp[Zo];done)
 refine gN 2 ?_ ?_<;>intro b
 ·refine gG 3 (⟨Yc Value.bool ?_,O⟩)
  (subst_vars;simp[Zo];done)
 refine gN 2 ?_ ?_<;>intro c
 ·refine gG 3 (⟨Yc Value.bool ?_,O⟩)
  (subst_vars;simp[Zo];done)
 refine gN 2 ?_ ?_<;>intro d
 ·refine gG 3 (⟨Yc Value.bool ?_,O⟩)
  (subst_vars;simp[Zo];done)
 refine gN 2 ?_ ?_<;>intro e
 ·refine gG 7 (⟨Yc Value.bool ?_,O⟩)
  (subst_vars;simp[Zo];done)
 refine gG 1 (⟨Yc Value.bool ?_,O⟩)
 (simp[Zo, *];done)
theorem Xzd(c:Int)(s:Lu)(i:s.length<=1000000)(f:AX I)(g:Bf I)(N:La)(b:Aa B w I N):Ce B I N 352 [Ab c,S s] w (.bool (l9 c s)):=by
 refine gM 3 ?_ ?_<;>intro e h
 ·refine gC 1 (we _ 0 _) ?_;rintro _ _ ⟨rfl,rfl⟩;exact gG 1 ⟨by rw[l9,Y9 (su e)],b⟩
 refine gE 1 (wh s i f g) ?_;intro w b;rcases gA:Ey s with _|⟨k,d⟩
 ·refine gH 11 (.Au (T:=λw=>Aa B w I N) O O O func422 O (λa=>(X6 (.gd a O) (X6 (.gd a O) X4))) O (λa=>Pu (we _ _ w) b) b ?_);clear b;rintro w b;exact gG 2 ⟨by rw[l9,Y3 (su e),gA];rfl,b⟩
 refine gH 11 (.Au (T:=λw=>Aa B w I N) O O O func422 O (λa=>(X6 (.gd a O) (X6 (.gd a O) X4))) O (λa=>Pu (we _ _ w) b) b ?_);clear b;rintro w b;exact gG 2 ⟨by rw[l9,Y3 (su e),gA];rfl,b⟩
abbrev Xa(r:Ah):Lv:=[Ab r.kind,S r.name,S r.parent,S r.user,S r.service,S r.url,Ab r.made,Ab r.used,Ab r.AV,.bool r.fresh]
theorem wi(r:Ah)(e:r.name.length<=1000000)(f:r.parent.length<=1000000)(c:AX I)(d:Bf I)(N:La)(b:Aa B w I N):Ce B I N 264 [.agg (Xa r).toArray] w (.bool (C7 r)):=by
 refine gH 14 ?_;intro b1 w b;refine gH 14 (gH 14 (gH 12 (.Au (T:=λw=>Aa B w I (Ac b1 [Ab r.kind,S r.name,S r.parent,S r.user,S r.service,S r.url,Ab r.made,Ab r.used,Ab r.AV,.bool r.fresh] 126::N)) O O O func294 O (λa=>(X6 (.gd a O) (X6 (.gd a O) X4))) O (λa=>ic r.name r.kind e c d _ b) b ?_)));clear b;rintro w b;refine gH 6 (.Au (T:=λw=>Aa B w I (Ac b1 [Ab r.kind,S r.name,S r.parent,S r.user,S r.service,S r.url,Ab r.made,Ab r.used,Ab r.AV,.bool r.fresh] 126::N)) O O O func352 O (λa=>(X6 (.gd a O) (X6 (.gd a O) X4))) O (λa=>Xzd r.kind r.parent f c d _ b) b ?_);clear b;rintro w b;exact gG 2 ⟨O,b.s⟩
theorem Xxy(s:Lu)(j:s.length<=1000000)(i:Kx I)(g:Bf I)(N:La)(b:Aa B w I N):Ce B I N 390 [S s] w (match Ey s with|some (k,d)=>.tuple #[Ab (k:Nat),Bo (d:Nat),.bool true]|none=>.tuple #[Ab 0,Bo 0,.bool false]):=by
 refine gE 4 (SC s 45 j i) ?_;intro w b;refine gE 8 (Xux _ (by have:=Ih [45] s;rw[Y6];omega)) ?_;intro w b;rcases qh:TO ((Xn [45] s).drop 1)with _|d
 ·refine gG 5 (.val (Ex.B8 (m:=7) (.of O) mV AQ) O (gP 1 [] (og _ 7 _ de (AP [45] s) ⟨O,λ_=>⟨_,O,g⟩⟩ N) ?_));rintro _ w ⟨rfl,b⟩;refine gM 7 ?_ ?_<;>intro a c
  ·refine gG 3 (⟨?_,b⟩)
   have:Ey s=none:=by
    unfold Ey;split
    ·rfl
    ·rw[qh];rfl
   rw[this]
  refine gH 5 (.nil (.ret ?_));refine λ_ f=>k8 f O O O ?_
  exfalso;simp at a
 refine gG 5 (.val (Ex.B8 (m:=7) (.of O) mV AQ) O (gP 1 [] (og _ 7 _ de (AP [45] s) ⟨O,λ_=>⟨_,O,g⟩⟩ N) ?_));rintro _ w ⟨rfl,b⟩;refine gM 7 ?_ ?_<;>intro a c
 ·refine gG 3 (⟨?_,b⟩);have e:=(sB (AP [45] s)).2 (by simp at a;omega);rw[Ey,Y9 e]
 refine gG 5 (⟨?_,b⟩);obtain⟨e,h⟩:=(sB (AP [45] s)).1 (by simp at a;omega);rw[Ey,Y3 e,qh,h];rfl
theorem MR(s:Lu)(a:Int)(f:s.length<=1000000)(c:Kx I)(e:Bf I)(N:La)(b:Aa B w I N):Ce B I N 294 [S s,Ab a] w (.bool (QN s a)):=by
 refine gE 2 (Xxy s f c e) ?_;intro w b;rcases gA:Ey s with _|⟨k,d⟩
 ·exact gG 14 ⟨by rw[QN,gA];rfl,b⟩
 exact gG 14 ⟨by rw[QN,gA];rfl,b⟩
theorem oH(h:n<=1099511627776):(Go.Lib.decDigits n).length<=13:=by
 rw[Go.Lib.decDigits_length];have key:∀(k n:Nat),n<10^k->1<=k->Go.Lib.nDigits n<=k:=by
  intro k
  induction k with
  | zero=>intro n _ h;omega
  | succ k b =>
   intro n h _
   by_cases a:n<10
   ·rw[Go.Lib.nDigits_small a];omega
   ·rw[Go.Lib.nDigits_big a];rw[T9]at h;cases k with
    | zero=>simp at h;omega
    | succ k=>have:=b (n/10) om om;omega
 exact key 13 n om de
theorem rT(n:Nat)(f:n<=1099511627776)(b:Kx I)(N:La)(a:Aa B w I N):Calls prog 136 #[Ab (n:Nat)] w (AY λv w'=>v=S (Go.Lib.decDigits n)/\Aa B w' I N) :=
 (strconv_Itoa n om om w (b.pow B w N a)).mono λe w' c=>by
  obtain⟨rfl,k,d,rfl⟩:=c;refine⟨_,O,?_,Xvd (lW a k) d⟩;unfold Go.Lib.itoa;rw[Y3 om];(try rw[Yd])
abbrev X8(n:Nt):Lv:=[S n.ticket,S n.url,Ab n.tries,Ab n.next]
theorem Xps(n:Nt)(e:n.ticket.length<=1000000)(f:n.url.length<=9223372036854775807)(c:Kx I)(d:Bf I)(N:La)(a:Aa B w I N):Ce B I N 194 [.agg (X8 n).toArray] w (.bool (FO n)):=by
 refine gH 4 ?_;intro b1 w a;refine gE 0 (MR _ 2 e c d) ?_;intro w a;refine gH 3 (.Au (T:=λw=>Aa B w I (Ac b1 [S n.ticket,S n.url,Ab n.tries,Ab n.next] 128::N)) O O O func294 O (λb=>(X6 (.gd b O) (A3 O X4))) O (λb=>MR n.ticket 3 e c d _ a) a ?_);clear a;rintro w a;refine gH 14 ?_;exact gG 14 ⟨O,a.s⟩
theorem Xum(h:J b=some (Xh cs E)):At J (ad b 0) cs :=
 ⟨O,cs.toArray,E,(0,0),h,λj v a=>by rw[show(ad b 0).off+j=j from Yk j];simpa using a⟩
theorem VJ(J:Im)(nm b:Lu)(c:nm.length<=10000)(e:b.length<=10000)(d:Nat):Bt (d+1) J [S nm,.slice none 0 0,S b,.slice none 0 0] (.mk nm [] b []) :=
 ⟨c,e,Y4 _,Y4 _,λa h=>by simp[Nd.attrs]at h,none,0,none,0,[],O,Ya _,Ya _,RS.nil J 2,RS.nil J 4,O,λx h=>by simp at h,λi x k h _=>by simp at h⟩
theorem V5{b c:Nat}{t:Lu}(l:t.length<=9000)(h:nn<=1099511627776)(f:J b=some (Xh [S lN,S (lO++t),S lS,S lR,S OT,S (Go.Lib.decDigits nn)] 124))(g:J c=some (Xh [S lP,.slice none 0 0,S IF,.slice none 0 0,S lQ,.slice none 0 0,S t,.slice none 0 0] 140)):Bt 8 J [S SM,.slice (some (ad b 0)) 3 3,S [],.slice (some (ad c 0)) 2 2] (fO t nn):=by
 have j:=oH h;refine⟨(show SM.length<=10000 by decide),Y4 _,(show 3<=10000 by decide),(show 2<=10000 by decide),λa e=>?_,some (ad b 0),3,some (ad c 0),2,[[S lP,.slice none 0 0,S IF,.slice none 0 0],[S lQ,.slice none 0 0,S t,.slice none 0 0]],O,Ya _,Ya _,⟨O,λ_=>⟨_,O,Xum f⟩⟩,⟨O,λ_=>⟨_,O,Xum g⟩⟩,O,λx hx=>?_,λi x k hx d=>?_⟩
 ·simp only[fO,Nd.attrs,Yp,List.mem_nil_iff,or_false]at e
  rcases e with rfl|rfl|rfl
  ·refine⟨by(try dsimp only);decide,?_⟩;show(lO++t).length<=10000
   rw[Y0];show 3+t.length<=10000;omega
  ·exact⟨de,de⟩
  ·exact⟨by(try dsimp only);decide,od⟩
 ·simp only[Yp,List.mem_nil_iff,or_false]at hx
  rcases hx with rfl|rfl<;>rfl
 ·match i,hx,d with
  | 0,hx,d=>cases hx;cases d;exact VJ J lP IF de de 6
  | 1,hx,d=>cases hx;cases d;exact VJ J lQ t de om 6
  | i+2,hx,_=>simp at hx
theorem xT{t:Lu}(c:t.length<=9000)(a:nn<=1099511627776):(RZ t nn).length<=100000:=by
 have b:=oH a;unfold RZ M1 M2 M3 M4;simp only[Y0,Y5,Yh]
 omega
theorem vj(t:Lu)(nn:Nat)(e:iX t=true)(f:nn<=1099511627776)(cs:Lv)(b:Kx I)(c:Bt 8 I cs (fO t nn))(N:La)(d:Aa B w I N):Calls prog 210 #[.agg cs.toArray] w (AY λv w'=>v=.tuple #[S (RZ t nn),Ab 0]/\Aa B w' I N):=by
 obtain⟨a,g⟩:=iL e
 have:=Xjg (fO t nn) cs b c (by rw[Xx4 a];have:=xT (t:=t) om f;omega) N d
 rw[cH a,Xx4 a]at this;exact this
theorem Xr5(t u:Lu)(q:Int)(nn:Nat)(j:iX t=true)(i:nn<=1099511627776)(m:Kx I)(N:La)(a:Aa B w I N):Ce B I N 126 [.agg ([S t,S u,Ab q,Ab (nn:Nat)]:Lv).toArray] w (S (RZ t nn)):=by
 have p:=(iL j).2;refine gG 2 ?_;intro b1 w a;refine gD [0] [] [0,1,2,3,4,5,6,10,11,12,13] ?_;intro w a;refine gH 11 (gB 7 14 [8] [7,8,9,15,16,17,18,19,20,21] ?_ ?_)
 ·refine gE 0 (rT nn i m) ?_;intro w a;refine gH 1 (gB 9 14 [14,15,16,17,18,19,20,21] [9,15,16,17,18,19,20,21] ?_ ?_)
  ·refine gH 1 ?_;intro k w a;refine gH 1 ?_;intro l w a;refine gH 1 ?_;replace a:=(a.pick 1 O)
   obtain⟨n,f,d,a⟩:=a.fZ 0;obtain⟨o,b,e,a⟩:=a.fZ 0;try dsimp only[List.eraseIdx]at a
   have c:=f.trans b;have g:=V5 (oh ((iL j).2)) i (b.h _ _ d) e;refine gE 0 (vj t nn j i _ (m.mono c) g) ?_;intro w a;exact gG 7 ⟨O,pg c a.s⟩
  ·refine gH 1 ?_;intro l w a;refine gH 1 ?_;intro k w a;refine gH 1 ?_;replace a:=((a.pick 1 O).pick 1 O)
   obtain⟨n,f,d,a⟩:=a.fZ 0;try dsimp only[List.eraseIdx]at a
   obtain⟨o,b,e,a⟩:=a.fZ 0;try dsimp only[List.eraseIdx]at a
   have c:=f.trans b;have g:=V5 (oh ((iL j).2)) i (b.h _ _ d) e;refine gE 0 (vj t nn j i _ (m.mono c) g) ?_;intro w a;exact gG 7 ⟨O,pg c a.s⟩
 ·refine gH 1 ?_;intro l w a;refine gE 0 (rT nn i m) ?_;intro w a;refine gH 2 ?_;intro k w a;refine gH 1 ?_;replace a:=((a.pick 1 O).pick 1 O)
  obtain⟨n,f,d,a⟩:=a.fZ 0;try dsimp only[List.eraseIdx]at a
  obtain⟨o,b,e,a⟩:=a.fZ 0;try dsimp only[List.eraseIdx]at a
  have c:=f.trans b;have g:=V5 (oh ((iL j).2)) i (b.h _ _ d) e;refine gE 0 (vj t nn j i _ (m.mono c) g) ?_;intro w a;exact gG 7 ⟨O,pg c a.s⟩
theorem vv{n:Nt}(h:FO n=true):iX n.ticket=true/\0<=n.next/\n.next<=1099511627776/\n.url.length<=100/\0<=n.tries/\n.tries<=9:=by
 unfold FO at h;simp only[Y8,dq1]at h
 obtain⟨⟨⟨⟨⟨a,f⟩,b⟩,c⟩,d⟩,e⟩:=h;exact⟨a,d,e,om,b,c⟩
end Go.Proofs.W9
namespace Rk
open Eg
def cW(b:Nat):Nat:=if 9223372036854775808<=b then 18446744073709551615-b else b+9223372036854775808
theorem Uf(h:b<18446744073709551616):b&&& 9223372036854775808=if 9223372036854775808<=b then 9223372036854775808 else 0:=by
 apply Nat.eq_of_testBit_eq
 intro i;have c:b.testBit 63=decide (9223372036854775808<=b):=by
  rw[Nat.testBit_eq_decide_div_mod_eq,show(2:Nat)^63=9223372036854775808 by decide];exact decide_eq_decide.2 om
 rw[Nat.testBit_and,show 9223372036854775808=2^63 by decide,yk];rw[show 9223372036854775808=2^63 by decide]at c
 by_cases hi:63=i
 ·subst hi;rw[c]
  by_cases a:2^63<=b
  ·rw[Y9 a,yk];simp[a]
  ·rw[Y3 a];simp[a]
 ·by_cases a:2^63<=b
  ·rw[Y9 a,yk];simp[hi]
  ·rw[Y3 a];simp[hi]
theorem qK(h:b<9223372036854775808):b||| 9223372036854775808=b+9223372036854775808:=by
 have e:=yb (i:=63) (by rw[show(2:Nat)^63=9223372036854775808 by decide];exact h) 1;rw[show(2:Nat)^63*1=9223372036854775808 by decide,Nat.or_comm]at e;rw[<-e];omega
def W(x y:Nat):Nat->Option Nat
 | 0=>nf x
 | k+1=>(W x y k).bind λv=>Ieee.double.mul v y
theorem iE{x y r a:Nat}(h:nf r=W x y k)(b:nf a=Ieee.double.mul r y):nf a=W x y (k+1):=by
 rw[W,<-h,b];unfold nf;cases c:nan r
 ·rfl
 ·simp[V6 (.inl c)]
def jw(n:Int):Nat:=(max 0 (min n 64)).toNat
def JY(x y:Nat)(k:Nat)(z:Nat):Nat:=if lt 0 z then match W x y k with|none=>z|some v=>if lt z v then z else if lt 0 v then v else 0 else 0
def C1(x y:Nat)(n:Int)(z:Nat):Nat:=JY x y (jw n) z
theorem YN{x y z:Nat}(h:lt 0 z=false):JY x y k z=0:=by unfold JY;rw[h];rfl
theorem xE{x y z r:Nat}(h:lt 0 z=true)(a:nf r=W x y k):JY x y k z=if nan r||lt z r then z else if lt 0 r then r else 0:=by
 unfold JY;rw[h,Y9 O,<-a];unfold nf;cases nan r<;>simp
theorem V8:nan 0=false:=de
theorem eI:sv 0=0:=de
theorem lt0(v:Nat):lt 0 v=(!nan v&&decide (0<sv v)):=by unfold lt;rw[V8,eI];simp
theorem U7(v:Nat):(!uH v v)=nan v:=by unfold uH;cases nan v<;>simp
def top(a:Int):Int:=max 0 (min a 1099511627776)
def gv(x:Nat):Int:=((Ieee.double.read (fK x)).toInt .zero).getD 0
def Iz(x:Nat)(a:Int):Int:=if nan x||lt (Sr (top a)) x then top a else if lt 0 x then gv x else 0
theorem pq(a:Int):0<=top a/\top a<=1099511627776:=by unfold top;omega
theorem YA{x:Nat}{a:Int}(h:nan x=false):lt (Sr (top a)) x=decide (top a*(one:Int)<sv x):=by
 obtain⟨b,c⟩:=Wh (pq a).1 (pq a).2;unfold lt;rw[b,h,c];simp
theorem Xul{x:Nat}{most:Int}(h:(nan x||lt (Sr (top most)) x)=false)(a:lt 0 x=true):(Ieee.double.read (fK x)).toInt .zero=some (gv x)/\0<=gv x/\gv x<=top most/\sv x<=gv x*one/\(gv x-1)*one<sv x:=by
 simp only[EB]at h
 obtain⟨b,f⟩:=h;rw[YA b]at f;simp only[dq2]at f
 rw[lt0,b]at a;simp at a
 have k:(0:Int)<(one:Int):=jL.2 one_pos;have l:=(pq most).2;have g:top most*(one:Int)<=1099511627776*(one:Int):=Y5i l om;obtain⟨c,d,m,i,j⟩:=P7 b a om;have e:gv x=c:=by unfold gv;rw[d];rfl
 rw[e];refine⟨d,om,?_,i,j⟩
 have:((c:Int)-1)*one<top most*one:=om
 have:=yc this (uz k)
 omega
theorem UJ(x:Nat)(a:Int):0<=Iz x a/\Iz x a<=top a/\(nan x=false->Iz x a<top a->sv x<=Iz x a*one)/\(0<Iz x a->nan x=false->(Iz x a-1)*one<sv x):=by
 have e:=pq a;unfold Iz;cases c:(nan x||lt (Sr (top a)) x)
 ·simp only[Sk,if_false]
  cases d:lt 0 x
  ·simp only[Sk,if_false]
   refine⟨om,e.1,λb _=>?_,om⟩;rw[lt0,b]at d;simp at d
   omega
  ·simp only[if_true]
   obtain⟨_,g1,g2,f,g⟩:=Xul c d;exact⟨g1,g2,λ_ _=>f,λ_ _=>g⟩
 ·simp only[if_true]
  refine⟨e.1,uD _,λ_ h=>by omega,λh b=>?_⟩;rw[b,YA b]at c;simp at c
  have:(top a-1)*(one:Int)<=top a*one:=Y5i om om
  omega
end Rk
namespace Go.Proofs.W9
open Gk Rk Eg
open Tryz
theorem Xmy(a:Nat)(w:Wo):Cz 313 [AM a] w λv w'=>v=.bool (Eg.nan a)/\w=w':=by
 refine gH 3 (.val (.yO (.of O) (.of O)) O ?_);exact gG 1 ⟨by rw[U7],O⟩
theorem Mq(b:Nat)(c:b<18446744073709551616)(w:Wo):Cz 378 [AM b] w λv w'=>v=Bo (cW b:Nat)/\w=w':=by
 refine gH 2 (.val (.extern func437 kr kr kr (e:=Extern.MathFloatBits.float64bits) kr (A3 O X4) O) O (gH 2 (.val (.pV c (.of O) (.of O)) O ?_)));refine gN 1 ?_ ?_<;>intro a
 ·refine gH 1 (.val (.qD om (.of O)) O (gG 1 ?_));have e:9223372036854775808<=b:=by
   rw[Uf c]at a;split at a
   ·assumption
   ·simp at a
  exact⟨by rw[cW,Y9 e],O⟩
 refine gH 1 (.val (.Ac7 c (.of O) (.of O)) O (gG 1 ?_));have e:¬ 9223372036854775808<=b:=by
  rw[Uf c]at a;split at a
  ·simp at a
  ·assumption
 exact⟨by rw[cW,Y3 e,qK om],O⟩
theorem Xcx(a:Int)(w:Wo):Cz 436 [Bo a] w λv w'=>v=.bool false/\w=w':=by
 exact gG 5 ⟨by simp,O⟩
theorem Xr0(a b:Int)(w:Wo):Cz 377 [Bo a,Bo b] w λv w'=>v=Ab (if a<b then -1 else if b<a then 1 else 0)/\w=w':=by
 refine gC 2 (Xcx _ _) ?_;rintro _ _ ⟨rfl,rfl⟩;refine gC 2 (Xcx _ _) ?_;rintro _ _ ⟨rfl,rfl⟩;refine gG 2 (.Aw (rfl) (gG 1 (.Aw (rfl) ?_)));refine gN 3 ?_ ?_<;>intro c
 ·exact gG 1 ⟨by rw[Y9 c],O⟩
 refine gN 3 ?_ ?_<;>intro d
 ·exact gG 1 ⟨by rw[Y3 om,Y9 d],O⟩
 exact gG 1 ⟨by rw[Y3 om,Y3 om],O⟩
theorem TA(x y:Nat)(n:Int)(z:Nat)(N:La)(c:Aa B w I N):Ce B I N 212 [AM x,AM y,Ab n,AM z] w (AM (C1 x y n z)):=by
 refine gH 2 (.val (.Vc (.of O) (.of O)) O ?_);refine gM 1 ?_ ?_<;>intro a m
 ·exact gG 1 ⟨by rw[C1,YN (su a)],c⟩
 refine gG 4 (.lk [1,3,14] (σ:=Nat×Nat) (λ(r,j) _m=>(0,AM r)::(15,Ab (j:Nat))::_m) (λ(r,j) w=>nf r=W x y j/\(j:Int)<=max 0 (min n 64)/\Aa B w I N) (λ(r,j)=>(max 0 (min n 64)).toNat-j) (x,0) ⟨O,om,c⟩ ?_);rintro⟨r,j⟩ w ⟨i,t,c⟩;refine gM 1 ?_ ?_<;>intro l o
 ·refine gH 2 (.yN c (.of O) (.of O) O ?_);intro k w s f c;refine gG 3 (A_ (_,j+1) O ⟨iE i f,om,c⟩)
 refine gC 1 (Xmy _ _) ?_;rintro _ _ ⟨rfl,rfl⟩;refine gH 3 (.Aj O O (λe=>(.Vc (.gd e O) (.gd e O))) O ?_);refine gM 2 ?_ ?_<;>intro b p
 ·refine gG 2 ?_;have g:j=jw n:=by unfold jw;omega
  subst g;have h:lt 0 z=true:=su a
  exact⟨by rw[C1,xE h i,Y9 b],c⟩
 refine gH 1 (.val (.Vc (.of O) (.of O)) O ?_);refine gM 1 ?_ ?_<;>intro d q
 ·refine gG 2 ?_;have g:j=jw n:=by unfold jw;omega
  subst g;have h:lt 0 z=true:=su a
  exact⟨by rw[C1,xE h i,Y3 (by rw[b];simp),Y9 d],c⟩
 refine gG 1 ?_;have g:j=jw n:=by unfold jw;omega
 subst g;have h:lt 0 z=true:=su a
 exact⟨by rw[C1,xE h i,Y3 (by rw[b];simp),Y3 (by rw[d];simp)],c⟩
theorem UE(w : World){x : Nat}(b : Eg.nan x = false): (Extern.MathFloor.toIntegral "math.archCeil" .up #[AM x]).run P w = .ok (AM (fK x)) w := by
 have a:(∃s m i,FloatKind.f64.decode x=.number s m i)\/∃s,FloatKind.f64.decode x=.infinity s:=by
  have c:¬ 9218868437227405312<rg x:=by simpa[Eg.nan]using b
  rcases Yt (rg x) 9218868437227405312 with h|h
  ·obtain⟨m,i,e,_⟩:=l_ h;exact .inl ⟨_,m,i,e⟩
  ·exact .inr ⟨_,sJ om⟩
 have e:fK x=FloatKind.f64.encode ((FloatKind.f64.decode x).integral .up):=rfl;rw[e];rcases a with⟨s,m,i,a⟩|⟨s,a⟩
 ·delta Extern.MathFloor.toIntegral
  conv=>lhs;arg 2;whnf
  rw[a];rfl
 ·delta Extern.MathFloor.toIntegral
  conv=>lhs;arg 2;whnf
  rw[a];rfl
theorem Sy(x:Nat)(a:Eg.nan x=false)(w:Wo):Cz 314 [AM x] w λv w'=>v=AM (fK x)/\w=w':=by
 refine gG 1 (.Ct (rfl) (gH 1 (.val (.extern func402 kr kr kr (e := Extern.MathFloor.toIntegral "math.archCeil" .up) kr (A3 O X4) (UE w a)) O ?_)));exact gG 1 ⟨O,O⟩
theorem OQ(x:Nat)(most:Int)(w:Wo):Cz 213 [AM x,Ab most] w λv w'=>v=Ab (Iz x most)/\w=w':=by
 refine gC 6 (Xmy _ _) ?_;rintro _ _ ⟨rfl,rfl⟩;refine gH 3 (.Aj O O (λc=>(.toF (.gd c O) O S8)) O (.Aj O O (λc=>(.Vc (.gd c O) (.gd c O))) O ?_));refine gM 2 ?_ ?_<;>intro b g
 ·exact gG 2 ⟨by rw[Iz,Y9 (show(Eg.nan x||lt (Sr (top most)) x)=true from b)];rfl,O⟩
 refine gH 1 (.val (.Vc (.of O) (.of O)) O ?_);refine gM 1 ?_ ?_<;>intro a f
 ·have e:Eg.nan x=false:=by cases h:Eg.nan x<;>simp[h]at b ⊢
  have d:=Xul (x:=x) (most:=most) b a;have i:=pq most;refine gC 1 (Sy x e _) ?_;rintro _ _ ⟨rfl,rfl⟩;refine .val (.ofF (.of O) O B1 d.1 d.2.1 om) O ?_;exact gG 1 ⟨by rw[Iz,Y3 (show ¬ _ by rw[show(Eg.nan x||lt (Sr (top most)) x)=false from b];simp),Y9 a],O⟩
 exact gG 1 ⟨by rw[Iz,Y3 (show ¬ _ by rw[show(Eg.nan x||lt (Sr (top most)) x)=false from b];simp),Y3 (by rw[a];simp)],O⟩
end Go.Proofs.W9
namespace Xm
open Ul Pc Gk DN Tk Tr
def uM:Nt:=⟨[],[],0,0⟩
def Lm:List Nt->List Nt->Bool
 | _,[]=>false
 | q,n::r=>(q.any λx=>x.ticket==n.ticket)||Lm (q++[n]) r
def Fv(q l:List Nt):List Nt×Nat:=if(l.any λn=>!FO n)=true then(q,1)else if Lm q l=true then(q,7)else if 64<q.length+l.length then(q,5)else(q++l,0)
def MQ:Option Nt->List Nt->Option Nt
 | b,[]=>b
 | none,n::r=>MQ (some n) r
 | some b,n::r=>MQ (some (if n.next<b.next then n else b)) r
def Ej(q:List Nt)(now:Int):Nt×Bool:=match MQ none q with
 | none=>(uM,false)
 | some b=>if now<b.next then(uM,false)else(b,true)
structure Qc where
 x:Nat
 y:Nat
 z:Nat
 tries:Int
def JN(c:Qc):Int:=max 1 (min c.tries 9)
def TL(c:Qc)(n:Nt)(now:Int):Nt:=⟨n.ticket,n.url,n.tries+1,min (now+Rk.Iz (Rk.C1 c.x c.y n.tries c.z) 1099511627776) 1099511627776⟩
def JB(q:List Nt)(t:Lu):Int:=Eu (λn=>n.ticket==t) q 0
def Gx(c:Qc)(q:List Nt)(t:List UInt8)(ok:Bool)(now:Int):List Nt×Nat:=match q[(JB q t).toNat]? with
 | none=>(q,6)
 | some n=>if JB q t<0 then(q,6)else if ok=true\/JN c<=n.tries+1 then(q.eraseIdx (JB q t).toNat,0)else(q.set (JB q t).toNat (TL c n now),0)
def FI(q:List Nt):Prop:=q.length<=64/\∀n∈q,FO n=true
theorem wt:∀{q:List Nt} {b:Option Nt} {n:Nt},MQ b q=some n->b=some n\/n∈q
 | [],b,n,h=>.inl h
 | m::r,none,n,h=>by
  rcases wt (q:=r) h with e|e
  ·cases e;exact .inr sz
  ·exact .inr (by simp[e])
 | m::r,some b,n,h=>by
  rcases wt (q:=r) h with e|e
  ·split at e
   ·cases e;exact .inr sz
   ·exact .inl e
  ·exact .inr (by simp[e])
theorem wq:∀(a b:List Nt) (s:Option Nt),MQ s (a++b)=MQ (MQ s a) b
 | [],b,s=>rfl
 | m::r,b,none=>wq r b _
 | m::r,b,some _=>wq r b _
theorem Nq(x:Nat):0<=Rk.Iz x 1099511627776/\Rk.Iz x 1099511627776<=1099511627776:=by
 have h:=Rk.UJ x 1099511627776;have a:Rk.top 1099511627776=1099511627776:=de
 rw[a]at h;exact⟨h.1,h.2.1⟩
theorem th{q l:List Nt}(h:FI q):FI (Fv q l).1:=by
 unfold Fv;split
 ·exact h
 ·rename_i a
  split
  ·exact h
  ·split
   ·exact h
   ·rename_i d
    refine⟨by rw[Y0];omega,λn c=>?_⟩;rcases Ys.1 c with e|e
    ·exact h.2 n e
    ·have b:=yp.1 (pJ _▸a) n e;simpa using b
theorem Xuv{c:Qc}{q:List Nt}{t:Lu}{ok:Bool}{now:Int}(h:FI q)(p:0<=now):FI (Gx c q t ok now).1:=by
 unfold Gx;split
 ·exact h
 ·rename_i n i
  split
  ·exact h
  ·split
   ·exact⟨Yq (List.length_eraseIdx_le _ _) h.1,λm a=>h.2 m (yf a)⟩
   ·rename_i d
    refine⟨by rw[jJ];exact h.1,λm a=>?_⟩;rcases pB a with e|e
    ·exact h.2 m e
    ·subst e;have b:=h.2 n (Y7 i);have f:=Nq (Rk.C1 c.x c.y n.tries c.z);have g:n.tries+1<JN c:=by
      rcases Int.lt_or_le (n.tries+1) (JN c)with e|e
      ·exact e
      ·exact Yz (.inr e) d
     unfold JN at g;unfold FO at b ⊢;simp only[Y8,dq1]at b ⊢
     obtain⟨⟨⟨⟨⟨g1,g2⟩,j⟩,k⟩,l⟩,o⟩:=b;exact⟨⟨⟨⟨⟨g1,g2⟩,by(try dsimp only[TL]);omega⟩,by(try dsimp only[TL]);omega⟩,by(try dsimp only[TL]);omega⟩,by(try dsimp only[TL]);omega⟩
end Xm
namespace Go.Proofs.W9
open Gk Ul Pc DN Xm Tr Tk
open Tryz
end Go.Proofs.W9
