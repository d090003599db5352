/- Part 2 of what the proof stands on. -/
import Derived.Test.YtiogkphlnggjfaaGreatDoorF28A
set_option linter.unusedVariables false
set_option linter.unusedSimpArgs false
set_option maxHeartbeats 2000000
set_option maxRecDepth 100000
set_option synthInstance.maxHeartbeats 400000
set_option synthInstance.maxSize 10000
open Go Gk
variable {p:Addr}{Ac:Array Bool}{af:Array Edge}{fs:Array Field}{ops Ew:Array Oper}{ts:Array TypeId}{held w1 want:Bool}{R:Ending->Wo->Prop}{L L' M:AD}{fd:Field}{fn:Func}{f:FuncId}{I J:Im}{DW DZ hi room D3:Int}{N A5 Hs:La}{G:List (Bool×Bool)}{pl:List (Nat×Nat)}{D T:List Int}{ks:List Nat}{rest:List Oper}{key nm Az:Lu}{args cs ds news vs xs zs:Lv}{b bytes c cap db fuel i k kb lg m n n0 nn o size:Nat}{nd spare:Nat->Bool}{ps:Nat->Int}{a a0 ka ua:Oa}{op:Op}{d:Option Nat}{P:Program}{S1 S2 g1 g2:Prop}{pos:String}{H X α β σ:Type}{E dst src t' ty:TypeId}{u us v v0:Va}{B w:Wo}{C:Wo->Prop}{A:X1}{K K':Bj}
namespace Go.Proofs.W9
open Gk Go Tryz
abbrev i137:=fb func137 ntmps137 results137
abbrev i138:=fb func138 ntmps138 results138
abbrev i139:=fb func139 ntmps139 results139
abbrev i140:=fb func140 ntmps140 results140
abbrev i141:=fb func141 ntmps141 results141
abbrev i142:=fb func142 ntmps142 results142
abbrev i143:=fb func143 ntmps143 results143
abbrev i144:=fb func144 ntmps144 results144
abbrev i145:=fb func145 ntmps145 results145
abbrev i146:=fb func146 ntmps146 results146
abbrev i147:=fb func147 ntmps147 results147
abbrev i148:=fb func148 ntmps148 results148
abbrev i149:=fb func149 ntmps149 results149
abbrev i150:=fb func150 ntmps150 results150
abbrev i151:=fb func151 ntmps151 results151
abbrev i152:=fb func152 ntmps152 results152
abbrev i153:=fb func153 ntmps153 results153
abbrev i154:=fb func154 ntmps154 results154
abbrev i155:=fb func155 ntmps155 results155
abbrev i156:=fb func156 ntmps156 results156
abbrev i157:=fb func157 ntmps157 results157
abbrev i158:=fb func158 ntmps158 results158
abbrev i159:=fb func159 ntmps159 results159
abbrev i160:=fb func160 ntmps160 results160
abbrev i161:=fb func161 ntmps161 results161
abbrev i162:=fb func162 ntmps162 results162
abbrev i163:=fb func163 ntmps163 results163
abbrev i164:=fb func164 ntmps164 results164
abbrev i165:=fb func165 ntmps165 results165
abbrev i166:=fb func166 ntmps166 results166
abbrev i167:=fb func167 ntmps167 results167
abbrev i168:=fb func168 ntmps168 results168
abbrev i169:=fb func169 ntmps169 results169
abbrev i170:=fb func170 ntmps170 results170
abbrev i171:=fb func171 ntmps171 results171
abbrev i172:=fb func172 ntmps172 results172
abbrev i173:=fb func173 ntmps173 results173
abbrev i174:=fb func174 ntmps174 results174
abbrev i175:=fb func175 ntmps175 results175
abbrev i176:=fb func176 ntmps176 results176
abbrev i177:=fb func177 ntmps177 results177
abbrev i186:=fb func186 ntmps186 results186
abbrev i187:=fb func187 ntmps187 results187
abbrev i188:=fb func188 ntmps188 results188
abbrev i189:=fb func189 ntmps189 results189
abbrev i190:=fb func190 ntmps190 results190
abbrev i191:=fb func191 ntmps191 results191
abbrev i192:=fb func192 ntmps192 results192
abbrev i193:=fb func193 ntmps193 results193
abbrev i194:=fb func194 ntmps194 results194
abbrev i195:=fb func195 ntmps195 results195
abbrev i196:=fb func196 ntmps196 results196
abbrev i197:=fb func197 ntmps197 results197
abbrev i198:=fb func198 ntmps198 results198
abbrev i199:=fb func199 ntmps199 results199
abbrev i200:=fb func200 ntmps200 results200
abbrev i201:=fb func201 ntmps201 results201
abbrev i202:=fb func202 ntmps202 results202
abbrev i203:=fb func203 ntmps203 results203
abbrev i204:=fb func204 ntmps204 results204
abbrev i205:=fb func205 ntmps205 results205
abbrev i209:=fb Jd ntmps209 results209
abbrev i210:=fb func210 ntmps210 results210
abbrev i211:=fb func211 ntmps211 results211
abbrev i212:=fb func212 ntmps212 results212
abbrev i213:=fb func213 ntmps213 results213
abbrev i214:=fb func214 ntmps214 results214
abbrev i215:=fb Je ntmps215 results215
abbrev i216:=fb func216 ntmps216 results216
abbrev i217:=fb func217 ntmps217 results217
abbrev i218:=fb func218 ntmps218 results218
abbrev i219:=fb func219 ntmps219 results219
abbrev i220:=fb func220 ntmps220 results220
abbrev i221:=fb func221 ntmps221 results221
abbrev i222:=fb func222 ntmps222 results222
abbrev i223:=fb func223 ntmps223 results223
abbrev i224:=fb func224 ntmps224 results224
abbrev i225:=fb func225 ntmps225 results225
abbrev i226:=fb func226 ntmps226 results226
abbrev i227:=fb func227 ntmps227 results227
abbrev i228:=fb func228 ntmps228 results228
abbrev i229:=fb func229 ntmps229 results229
abbrev i230:=fb func230 ntmps230 results230
abbrev i231:=fb func231 ntmps231 results231
abbrev i232:=fb func232 ntmps232 results232
abbrev i233:=fb func233 ntmps233 results233
abbrev i234:=fb func234 ntmps234 results234
abbrev i235:=fb func235 ntmps235 results235
abbrev i236:=fb func236 ntmps236 results236
abbrev i237:=fb func237 ntmps237 results237
abbrev i238:=fb func238 ntmps238 results238
abbrev i239:=fb func239 ntmps239 results239
abbrev i240:=fb func240 ntmps240 results240
abbrev i241:=fb func241 ntmps241 results241
abbrev i242:=fb func242 ntmps242 results242
abbrev i243:=fb func243 ntmps243 results243
abbrev i245:=fb func245 ntmps245 results245
abbrev i246:=fb func246 ntmps246 results246
abbrev i247:=fb func247 ntmps247 results247
abbrev i248:=fb func248 ntmps248 results248
abbrev i250:=fb func250 ntmps250 results250
abbrev i251:=fb func251 ntmps251 results251
abbrev i252:=fb func252 ntmps252 results252
abbrev i253:=fb func253 ntmps253 results253
abbrev i254:=fb func254 ntmps254 results254
abbrev i255:=fb func255 ntmps255 results255
abbrev i256:=fb func256 ntmps256 results256
abbrev i257:=fb func257 ntmps257 results257
abbrev i258:=fb func258 ntmps258 results258
abbrev i259:=fb func259 ntmps259 results259
abbrev i260:=fb func260 ntmps260 results260
abbrev i261:=fb func261 ntmps261 results261
abbrev i262:=fb func262 ntmps262 results262
abbrev i263:=fb func263 ntmps263 results263
abbrev i264:=fb func264 ntmps264 results264
abbrev i265:=fb func265 ntmps265 results265
abbrev i266:=fb func266 ntmps266 results266
abbrev i267:=fb func267 ntmps267 results267
abbrev i268:=fb func268 ntmps268 results268
abbrev i269:=fb func269 ntmps269 results269
abbrev i270:=fb func270 ntmps270 results270
abbrev i271:=fb func271 ntmps271 results271
abbrev i279:=fb func279 ntmps279 results279
abbrev i280:=fb func280 ntmps280 results280
abbrev i281:=fb func281 ntmps281 results281
abbrev i282:=fb func282 ntmps282 results282
abbrev i283:=fb func283 ntmps283 results283
abbrev i284:=fb func284 ntmps284 results284
abbrev i286:=fb func286 ntmps286 results286
abbrev i287:=fb func287 ntmps287 results287
abbrev i288:=fb func288 ntmps288 results288
abbrev i289:=fb func289 ntmps289 results289
abbrev i291:=fb func291 ntmps291 results291
abbrev i302:=fb func302 ntmps302 results302
abbrev i304:=fb func304 ntmps304 results304
abbrev i305:=fb func305 ntmps305 results305
abbrev i313:=fb func313 ntmps313 results313
abbrev i314:=fb func314 ntmps314 results314
abbrev i315:=fb func315 ntmps315 results315
abbrev i316:=fb func316 ntmps316 results316
abbrev i317:=fb func317 ntmps317 results317
abbrev i318:=fb func318 ntmps318 results318
abbrev i319:=fb func319 ntmps319 results319
abbrev i320:=fb func320 ntmps320 results320
abbrev i321:=fb func321 ntmps321 results321
abbrev i322:=fb func322 ntmps322 results322
abbrev i323:=fb func323 ntmps323 oy
abbrev i324:=fb func324 ntmps324 results324
abbrev i325:=fb func325 ntmps325 results325
abbrev i326:=fb func326 ntmps326 results326
abbrev i327:=fb func327 ntmps327 results327
abbrev i328:=fb func328 ntmps328 results328
abbrev i330:=fb func330 ntmps330 results330
abbrev i331:=fb func331 ntmps331 results331
abbrev i332:=fb func332 ntmps332 results332
abbrev i333:=fb func333 ntmps333 results333
abbrev i334:=fb func334 ntmps334 results334
abbrev i335:=fb func335 ntmps335 results335
abbrev i336:=fb func336 ntmps336 results336
abbrev i337:=fb func337 ntmps337 results337
abbrev i338:=fb func338 ntmps338 results338
abbrev i339:=fb func339 ntmps339 results339
abbrev i340:=fb func340 ntmps340 results340
abbrev i341:=fb func341 ntmps341 results341
abbrev i342:=fb func342 ntmps342 results342
abbrev i343:=fb func343 ntmps343 results343
abbrev i344:=fb func344 ntmps344 results344
abbrev i345:=fb func345 ntmps345 results345
abbrev i346:=fb func346 ntmps346 results346
abbrev i347:=fb func347 ntmps347 results347
abbrev i348:=fb func348 ntmps348 results348
abbrev i349:=fb func349 ntmps349 results349
abbrev i350:=fb func350 ntmps350 results350
abbrev i351:=fb func351 ntmps351 results351
abbrev i352:=fb func352 ntmps352 results352
abbrev i353:=fb func353 ntmps353 results353
abbrev i354:=fb func354 ntmps354 results354
abbrev i355:=fb func355 ntmps355 results355
abbrev i358:=fb func358 ntmps358 results358
abbrev i360:=fb func360 ntmps360 results360
abbrev i369:=fb func369 ntmps369 results369
abbrev i370:=fb func370 ntmps370 results370
abbrev i375:=fb func375 ntmps375 results375
abbrev i376:=fb func376 ntmps376 results376
abbrev i377:=fb func377 ntmps377 results377
abbrev i378:=fb func378 ntmps378 results378
abbrev i379:=fb func379 ntmps379 results379
abbrev i380:=fb func380 ntmps380 results380
abbrev i381:=fb func381 ntmps381 results381
abbrev i382:=fb func382 ntmps382 results382
abbrev i383:=fb func383 ntmps383 results383
abbrev i385:=fb func385 ntmps385 results385
abbrev i394:=fb func394 ntmps394 results394
abbrev i395:=fb func395 ntmps395 results395
abbrev i396:=fb func396 ntmps396 results396
abbrev i397:=fb func397 ntmps397 results397
abbrev i398:=fb func398 ntmps398 results398
abbrev i399:=fb func399 ntmps399 results399
abbrev i400:=fb func400 ntmps400 results400
abbrev i403:=fb func403 ntmps403 results403
abbrev i404:=fb func404 ntmps404 results404
abbrev i405:=fb func405 ntmps405 results405
abbrev i407:=fb func407 ntmps407 results407
abbrev i411:=fb func411 ntmps411 results411
abbrev i413:=fb func413 ntmps413 results413
abbrev i415:=fb func415 ntmps415 results415
abbrev i417:=fb func417 ntmps417 results417
abbrev i421:=fb func421 ntmps421 results421
abbrev i422:=fb func422 ntmps422 results422
abbrev i423:=fb func423 ntmps423 results423
abbrev i424:=fb func424 ntmps424 results424
abbrev i425:=fb func425 ntmps425 results425
abbrev i426:=fb func426 ntmps426 results426
abbrev i428:=fb func428 ntmps428 results428
abbrev i429:=fb func429 ntmps429 results429
abbrev i431:=fb func431 ntmps431 results431
abbrev i432:=fb Jg ntmps432 results432
abbrev i435:=fb func435 ntmps435 results435
abbrev i436:=fb func436 ntmps436 results436
abbrev i437:=fb func437 ntmps437 results437
instance:Fo prog 26 0 0:=fo Ls O Qv
instance:Fo prog 26 1 7:=fo Ls O Qv
instance:Fo prog 26 2 14:=fo Ls O Qv
instance:Fo prog 29 0 0:=fo GV O sizeOf22
instance:Fo prog 29 1 1:=fo GV O sizeOf23
instance:Fo prog 29 2 2:=fo GV O H3
instance:Fo prog 29 3 23:=fo GV O Bg
instance:Fo prog 29 4 24:=fo GV O Fu
instance:Fo prog 29 5 25:=fo GV O Fu
instance:Fo prog 29 6 26:=fo GV O Fu
instance:Fo prog 29 7 27:=fo GV O Bg
instance:Fo prog 46 0 0:=fo GX O Bg
instance:Fo prog 46 1 1:=fo GX O A3
instance:Fo prog 46 2 2:=fo GX O Bg
instance:Fo prog 46 3 3:=fo GX O cG
instance:Fo prog 46 4 4:=fo GX O sizeOf43
instance:Fo prog 46 5 5:=fo GX O FR
instance:Fo prog 56 0 0:=fo Ou O F4
instance:Fo prog 56 1 28:=fo Ou O Lm
instance:Fo prog 56 2 29:=fo Ou O IU
instance:Fo prog 56 4 31:=fo Ou O cG
instance:Fo prog 62 0 0:=fo HD O Bg
instance:Fo prog 62 1 1:=fo HD O Fu
instance:Fo prog 62 2 2:=fo HD O A3
instance:Fo prog 62 3 3:=fo HD O DT
instance:Fo prog 62 4 4:=fo HD O DT
instance:Fo prog 62 5 5:=fo HD O DT
instance:Fo prog 62 6 6:=fo HD O A3
instance:Fo prog 62 7 7:=fo HD O G2
instance:Fo prog 65 0 0:=fo JA O A3
instance:Fo prog 65 1 1:=fo JA O A3
instance:Fo prog 65 2 2:=fo JA O Ln
instance:Fo prog 68 0 0:=fo JB O cI
instance:Fo prog 68 1 1:=fo JB O FR
instance:Fo prog 86 0 0:=fo GY O UF
instance:Fo prog 86 1 1:=fo GY O sizeOf84
instance:Fo prog 86 2 2:=fo GY O sizeOf43
instance:Fo prog 86 3 3:=fo GY O DT
instance:Fo prog 86 4 4:=fo GY O Bg
instance:Fo prog 96 0 0:=fo JC O sizeOf90
instance:Fo prog 96 1 1:=fo JC O UG
instance:Fo prog 96 2 2:=fo JC O Lo
instance:Fo prog 99 0 0:=fo US O A3
instance:Fo prog 99 1 1:=fo US O A3
instance:Fo prog 103 0 0:=fo ij O A3
instance:Fo prog 103 1 1:=fo ij O A3
instance:Fo prog 103 2 2:=fo ij O Bg
instance:Fo prog 103 3 3:=fo ij O Bg
instance:Fo prog 115 0 0:=fo TQ O jV
instance:Fo prog 115 1 1:=fo TQ O sizeOf111
instance:Fo prog 115 2 2:=fo TQ O sizeOf112
instance:Fo prog 115 3 3:=fo TQ O sizeOf113
instance:Fo prog 115 4 4:=fo TQ O H3
instance:Fo prog 115 5 25:=fo TQ O Bg
instance:Fo prog 118 0 0:=fo UH O A3
instance:Fo prog 118 1 1:=fo UH O A3
instance:Fo prog 141 0 0:=fo UJ O sizeOf136
instance:Fo prog 141 1 1:=fo UJ O sizeOf139
instance:Fo prog 149 1 1:=fo j_ O Fu
instance:Fo prog 149 2 2:=fo j_ O Fu
instance:Fo prog 149 3 3:=fo j_ O Fu
instance:Fo prog 149 4 4:=fo j_ O sizeOf107
instance:Fo prog 158 0 0:=fo UK O Bg
instance:Fo prog 158 1 1:=fo UK O sizeOf156
instance:Fo prog 160 0 0:=fo F6 O Bg
instance:Fo prog 160 1 1:=fo F6 O A3
instance:Fo prog 160 2 2:=fo F6 O A3
instance:Fo prog 160 3 3:=fo F6 O A3
instance:Fo prog 160 4 4:=fo F6 O A3
instance:Fo prog 160 5 5:=fo F6 O A3
instance:Fo prog 160 6 6:=fo F6 O Bg
instance:Fo prog 160 7 7:=fo F6 O Bg
instance:Fo prog 160 8 8:=fo F6 O Bg
instance:Fo prog 160 9 9:=fo F6 O DT
instance:Fo prog 166 0 0:=fo NU O Bg
instance:Fo prog 166 1 1:=fo NU O Ln
instance:Fo prog 166 2 2:=fo NU O A3
instance:Fo prog 170 0 0:=fo oB O A3
instance:Fo prog 170 1 1:=fo oB O A3
instance:Fo prog 170 2 2:=fo oB O Ln
instance:Fo prog 170 3 3:=fo oB O A3
instance:Fo prog 183 0 0:=fo bR O UG
instance:Fo prog 183 1 1:=fo bR O Lo
instance:Fo prog 183 2 2:=fo bR O Ln
instance:Fo prog 183 3 3:=fo bR O A3
instance:Fo prog 183 4 4:=fo bR O NR
instance:Fo prog 183 5 7:=fo bR O A3
instance:Fo prog 183 6 8:=fo bR O DT
instance:Fo prog 187 0 0:=fo Jq O A3
instance:Fo prog 187 1 1:=fo Jq O A3
instance:Fo prog 187 2 2:=fo Jq O A3
instance:Fo prog 208 0 0:=fo Jt O Ib
instance:Fo prog 208 1 8:=fo Jt O sizeOf206
instance:Fo prog 208 2 9:=fo Jt O sizeOf206
instance:Fo prog 212 0 0:=fo Ju O Jm
instance:Fo prog 217 0 0:=fo NY O sizeOf215
instance:Fo prog 225 0 0:=fo underlying225 O cG
instance:Fo prog 227 0 0:=fo ik O Bg
instance:Fo prog 227 1 1:=fo ik O Bg
instance:Fo prog 227 2 2:=fo ik O Bg
instance:Fo prog 229 0 0:=fo TR O Lm
instance:Fo prog 229 1 1:=fo TR O IM
instance:Fo prog 229 2 4:=fo TR O FR
instance:Fo prog 237 0 0:=fo oC O A3
instance:Fo prog 237 1 1:=fo oC O A3
instance:Fo prog 237 2 2:=fo oC O DT
instance:Fo prog 255 0 0:=fo underlying255 O A3
instance:Fo prog 275 0 0:=fo NZ O A3
instance:Fo prog 275 1 1:=fo NZ O A3
instance:Fo prog 275 2 2:=fo NZ O A3
instance:Fo prog 294 0 0:=fo Vn O Bg
instance:Fo prog 294 1 1:=fo Vn O KV
instance:Fo prog 333 0 0:=fo kg O A3
instance:Fo prog 333 1 1:=fo kg O A3
instance:Fo prog 333 2 2:=fo kg O DT
instance:Fo prog 333 3 3:=fo kg O DT
instance:Fo prog 333 4 4:=fo kg O DT
instance:Fo prog 333 5 5:=fo kg O DT
instance:Fo prog 345 0 0:=fo Jv O A3
instance:Fo prog 345 1 1:=fo Jv O Ln
instance:Fo prog 345 2 2:=fo Jv O G2
instance:Fo prog 345 3 3:=fo Jv O A3
instance:Fo prog 362 0 0:=fo kh O A3
instance:Fo prog 362 1 1:=fo kh O A3
instance:Fo prog 362 2 2:=fo kh O Bg
instance:Fo prog 362 3 3:=fo kh O A3
instance:Fo prog 362 4 4:=fo kh O A3
instance:Fo prog 362 5 5:=fo kh O DT
instance:Fo prog 371 0 0:=fo Jx O A3
instance:Fo prog 371 1 1:=fo Jx O Ln
instance:Fo prog 371 2 2:=fo Jx O A3
instance:Fo prog 371 3 3:=fo Jx O sizeOf369
instance:Fo prog 400 0 0:=fo N0 O sizeOf397
instance:Fo prog 400 1 1:=fo N0 O sizeOf398
instance:Fo prog 400 2 2:=fo N0 O oz
instance:Fo prog 403 0 0:=fo UN O sizeOf397
instance:Fo prog 403 1 1:=fo UN O Bg
instance:Fo prog 433 0 0:=fo ki O A3
instance:Fo prog 433 1 1:=fo ki O A3
instance:Fo prog 433 2 2:=fo ki O A3
instance:Fo prog 433 3 3:=fo ki O Bg
instance:Fo prog 433 4 4:=fo ki O DT
instance:Fo prog 433 5 5:=fo ki O DT
instance:Fo prog 436 0 0:=fo Jz O A3
instance:Fo prog 436 1 1:=fo Jz O A3
instance:Fo prog 436 2 2:=fo Jz O DT
instance:Fo prog 436 3 3:=fo Jz O DT
instance:Fo prog 461 0 0:=fo N3 O Cw
instance:Fo prog 461 1 1:=fo N3 O Cw
instance:Fo prog 461 2 2:=fo N3 O oz
instance:NN prog 3 (.int .i64 0) 1 8:=⟨t3,by kernel_rfl,O,O,O,O⟩
instance:NN prog 5 (.int .u8 0) 1 1:=⟨t5,by kernel_rfl,O,O,O,O⟩
instance:NN prog 9 (S []) 1 16:=⟨t9,by kernel_rfl,O,O,O,O⟩
instance:NN prog 27 (.float .f64 0) 1 8:=⟨t27,by kernel_rfl,O,O,O,O⟩
instance:NN prog 44 (.slice none 0 0) 1 24:=⟨t44,by kernel_rfl,O,O,O,O⟩
instance:NN prog 99 (.agg #[S [],S []]) 2 32:=⟨t99,by kernel_rfl,O,O,O,O⟩
instance:NN prog 103 (.agg #[S [],S [],.int .i64 0,.int .i64 0]) 4 48:=⟨t103,by kernel_rfl,O,O,O,O⟩
instance:NN prog 160 (.agg #[.int .i64 0,S [],S [],S [],S [],S [],.int .i64 0,.int .i64 0,.int .i64 0,.bool false]) 10 120:=⟨t160,by kernel_rfl,O,O,O,O⟩
instance:NN prog 208 (.agg #[.int .i64 0,.float .f64 0,S [],.bool false,.bool false,.bool false,S [],.slice none 0 0,.pointer none,.pointer none]) 10 96:=⟨t208,by kernel_rfl,O,O,O,O⟩
instance:NN prog 213 (.slice none 0 0) 1 24:=⟨t213,by kernel_rfl,O,O,O,O⟩
instance:NN prog 237 (.agg #[S [],S [],.bool false]) 3 40:=⟨t237,by kernel_rfl,O,O,O,O⟩
instance:NN prog 371 (.agg #[S [],.slice none 0 0,S [],.slice none 0 0]) 4 80:=⟨t371,by kernel_rfl,O,O,O,O⟩
instance:NN prog 461 (.agg #[.int .u8 0,.int .u8 0,.slice none 0 0]) 3 32:=⟨t461,by kernel_rfl,O,O,O,O⟩
instance:Sz prog 3 1:=⟨Bg⟩
instance:Sz prog 4 1:=⟨DT⟩
instance:Sz prog 5 1:=⟨Cw⟩
instance:Sz prog 9 1:=⟨A3⟩
instance:Sz prog 27 1:=⟨Fu⟩
instance:Sz prog 29 28:=⟨F4⟩
instance:Sz prog 34 1:=⟨G2⟩
instance:Sz prog 35 1:=⟨sizeOf35⟩
instance:Sz prog 41 1:=⟨sizeOf41⟩
instance:Sz prog 42 1:=⟨cG⟩
instance:Sz prog 43 1:=⟨sizeOf43⟩
instance:Sz prog 44 1:=⟨FR⟩
instance:Sz prog 46 6:=⟨cH⟩
instance:Sz prog 62 8:=⟨Ib⟩
instance:Sz prog 63 1:=⟨Ln⟩
instance:Sz prog 65 3:=⟨H4⟩
instance:Sz prog 66 1:=⟨cI⟩
instance:Sz prog 84 1:=⟨sizeOf84⟩
instance:Sz prog 87 1:=⟨UG⟩
instance:Sz prog 93 1:=⟨Lo⟩
instance:Sz prog 99 2:=⟨JN⟩
instance:Sz prog 103 4:=⟨QT⟩
instance:Sz prog 107 1:=⟨sizeOf107⟩
instance:Sz prog 118 2:=⟨EG⟩
instance:Sz prog 122 1:=⟨sizeOf122⟩
instance:Sz prog 139 1:=⟨sizeOf139⟩
instance:Sz prog 149 5:=⟨sizeOf149⟩
instance:Sz prog 156 1:=⟨sizeOf156⟩
instance:Sz prog 160 10:=⟨LG⟩
instance:Sz prog 166 3:=⟨NR⟩
instance:Sz prog 170 4:=⟨sizeOf170⟩
instance:Sz prog 187 3:=⟨sizeOf187⟩
instance:Sz prog 208 10:=⟨jX⟩
instance:Sz prog 213 1:=⟨oz⟩
instance:Sz prog 227 3:=⟨IM⟩
instance:Sz prog 237 3:=⟨bP⟩
instance:Sz prog 247 1:=⟨sizeOf247⟩
instance:Sz prog 275 3:=⟨oA⟩
instance:Sz prog 292 32:=⟨KV⟩
instance:Sz prog 294 33:=⟨bQ⟩
instance:Sz prog 333 6:=⟨sizeOf333⟩
instance:Sz prog 345 4:=⟨sizeOf345⟩
instance:Sz prog 362 6:=⟨sizeOf362⟩
instance:Sz prog 369 1:=⟨sizeOf369⟩
instance:Sz prog 371 4:=⟨sizeOf371⟩
instance:Sz prog 385 1:=⟨sizeOf385⟩
instance:Sz prog 397 1:=⟨sizeOf397⟩
instance:Sz prog 398 1:=⟨sizeOf398⟩
instance:Sz prog 433 6:=⟨sizeOf433⟩
instance:Sz prog 436 4:=⟨sizeOf436⟩
instance:Sz prog 461 3:=⟨NS⟩
instance:Un prog 3 (.int .i64):=⟨B5⟩
instance:Un prog 5 (.int .u8):=⟨BW⟩
instance:Un prog 9 .string:=⟨Bb⟩
instance:Un prog 22 (.slice 62):=⟨Ot⟩
instance:Un prog 23 (.slice 65):=⟨underlying23⟩
instance:Un prog 30 (.int .u16):=⟨underlying30⟩
instance:Un prog 31 (.slice 46):=⟨Qw⟩
instance:Un prog 34 (.slice 9):=⟨ET⟩
instance:Un prog 42 (.slice 41):=⟨Qy⟩
instance:Un prog 43 (.slice 4):=⟨Jy⟩
instance:Un prog 44 (.slice 5):=⟨BC⟩
instance:Un prog 63 (.slice 99):=⟨Ov⟩
instance:Un prog 66 (.pointer 68):=⟨Qz⟩
instance:Un prog 83 (.slice 292):=⟨QA⟩
instance:Un prog 84 (.slice 294):=⟨jw⟩
instance:Un prog 107 (.slice 103):=⟨TP⟩
instance:Un prog 142 (.slice 44):=⟨jZ⟩
instance:Un prog 144 (.slice 237):=⟨NT⟩
instance:Un prog 156 (.slice 160):=⟨ke⟩
-- Un 201
instance:Un prog 204 (.slice 208):=⟨Jr⟩
instance:Un prog 205 (.slice 27):=⟨Js⟩
instance:Un prog 213 (.slice 3):=⟨kf⟩
instance:Un prog 248 (.slice 247):=⟨underlying248⟩
instance:Un prog 369 (.slice 371):=⟨underlying369⟩
instance:Un prog 397 (.slice 461):=⟨underlying397⟩
instance:Un prog 398 (.slice 213):=⟨underlying398⟩
instance:Un prog 458 (.slice 122):=⟨N2⟩
instance:Zv prog 3 (.int .i64 0):=⟨N5⟩
instance:Zv prog 4 (.bool false):=⟨QC⟩
instance:Zv prog 5 (.int .u8 0):=⟨N7⟩
instance:Zv prog 9 (S []):=⟨KQ⟩
instance:Zv prog 27 (.float .f64 0):=⟨zeroValue27⟩
instance:Zv prog 29 (.agg #[.slice none 0 0,.slice none 0 0,.int .i64 0,.int .i64 0,.int .i64 0,.int .i64 0,.int .i64 0,.int .i64 0,.int .i64 0,.int .i64 0,.int .i64 0,.int .i64 0,.int .i64 0,.int .i64 0,.int .i64 0,.int .i64 0,.int .i64 0,.int .i64 0,.int .i64 0,.int .i64 0,.int .i64 0,.int .i64 0,.int .i64 0,.int .i64 0,.float .f64 0,.float .f64 0,.float .f64 0,.int .i64 0]):=⟨zeroValue29⟩
instance:Zv prog 34 (.slice none 0 0):=⟨cJ⟩
instance:Zv prog 35 (.int .i64 0):=⟨zeroValue35⟩
instance:Zv prog 41 (.int .u64 0):=⟨zeroValue41⟩
instance:Zv prog 44 (.slice none 0 0):=⟨UY⟩
instance:Zv prog 46 (.agg #[.int .i64 0,S [],.int .i64 0,.slice none 0 0,.slice none 0 0,.slice none 0 0]):=⟨jz⟩
instance:Zv prog 62 (.agg #[.int .i64 0,.float .f64 0,S [],.bool false,.bool false,.bool false,S [],.slice none 0 0]):=⟨zeroValue62⟩
instance:Zv prog 65 (.agg #[S [],S [],.slice none 0 0]):=⟨U3⟩
instance:Zv prog 68 (.agg #[.pointer none,.slice none 0 0]):=⟨jA⟩
instance:Zv prog 99 (.agg #[S [],S []]):=⟨zeroValue99⟩
instance:Zv prog 103 (.agg #[S [],S [],.int .i64 0,.int .i64 0]):=⟨N4⟩
instance:Zv prog 115 (.agg #[.pointer none,.pointer none,.pointer none,.pointer none,.int .i64 0,.int .i64 0,.int .i64 0,.int .i64 0,.int .i64 0,.int .i64 0,.int .i64 0,.int .i64 0,.int .i64 0,.int .i64 0,.int .i64 0,.int .i64 0,.int .i64 0,.int .i64 0,.int .i64 0,.int .i64 0,.int .i64 0,.int .i64 0,.int .i64 0,.int .i64 0,.int .i64 0,.int .i64 0]):=⟨zeroValue115⟩
instance:Zv prog 118 (.agg #[S [],S []]):=⟨JD⟩
instance:Zv prog 122 (.nilFunc):=⟨zeroValue122⟩
instance:Zv prog 149 (.agg #[.int .i64 0,.float .f64 0,.float .f64 0,.float .f64 0,.slice none 0 0]):=⟨zeroValue149⟩
instance:Zv prog 160 (.agg #[.int .i64 0,S [],S [],S [],S [],S [],.int .i64 0,.int .i64 0,.int .i64 0,.bool false]):=⟨UT⟩
instance:Zv prog 166 (.agg #[.int .i64 0,.slice none 0 0,S []]):=⟨zeroValue166⟩
instance:Zv prog 170 (.agg #[S [],S [],.slice none 0 0,S []]):=⟨UU⟩
instance:Zv prog 187 (.agg #[S [],S [],S []]):=⟨zeroValue187⟩
instance:Zv prog 208 (.agg #[.int .i64 0,.float .f64 0,S [],.bool false,.bool false,.bool false,S [],.slice none 0 0,.pointer none,.pointer none]):=⟨UW⟩
instance:Zv prog 213 (.slice none 0 0):=⟨zeroValue213⟩
instance:Zv prog 227 (.agg #[.int .i64 0,.int .i64 0,.int .i64 0]):=⟨zeroValue227⟩
instance:Zv prog 237 (.agg #[S [],S [],.bool false]):=⟨zeroValue237⟩
instance:Zv prog 247 (.pointer none):=⟨zeroValue247⟩
instance:Zv prog 275 (.agg #[S [],S [],S []]):=⟨zeroValue275⟩
instance:Zv prog 333 (.agg #[S [],S [],.bool false,.bool false,.bool false,.bool false]):=⟨zeroValue333⟩
instance:Zv prog 345 (.agg #[S [],.slice none 0 0,.slice none 0 0,S []]):=⟨zeroValue345⟩
instance:Zv prog 362 (.agg #[S [],S [],.int .i64 0,S [],S [],.bool false]):=⟨zeroValue362⟩
instance:Zv prog 371 (.agg #[S [],.slice none 0 0,S [],.slice none 0 0]):=⟨zeroValue371⟩
instance:Zv prog 385 (.nilFunc):=⟨zeroValue385⟩
instance:Zv prog 461 (.agg #[.int .u8 0,.int .u8 0,.slice none 0 0]):=⟨zeroValue461⟩
attribute [instance] i3 i4 i5 i6 i7 i8 i9 i10 i11 i12 i13 i14 i15 i16 i17 i18 i19 i20 i21 i22 i23 i24 i25 i26 i27 i28 i29 i30 i31 i32 i33 i34 i35 i36 i37 i38 i39 i40 i41 i42 i43 i44 i45 i46 i48 i49 i51 i52 i53 i54 i55 i56 i57 i58 i59 i60 i61 i63 i64 i65 i66 i67 i68 i69 i70 i71 i72 i73 i74 i75 i76 i77 i78 i79 i80 i81 i82 i83 i84 i85 i86 i87 i88 i89 i90 i91 i92 i93 i95 i98 i99 i100 i101 i102 i103 i104 i105 i106 i107 i108 i109 i110 i111 i112 i113 i114 i117 i118 i119 i120 i121 i122 i123 i124 i125 i126 i127 i128 i129 i130 i131 i132 i133 i134 i135 i136 i137 i138 i139 i140 i141 i142 i143 i144 i145 i146 i147 i148 i149 i150 i151 i152 i153 i154 i155 i156 i157 i158 i159 i160 i161 i162 i163 i164 i165 i166 i167 i168 i169 i170 i171 i172 i173 i174 i175 i176 i177 i186 i187 i188 i189 i190 i191 i192 i193 i194 i195 i196 i197 i198 i199 i200 i201 i202 i203 i204 i205 i209 i210 i211 i212 i213 i214 i215 i216 i217 i218 i219 i220 i221 i222 i223 i224 i225 i226 i227 i228 i229 i230 i231 i232 i233 i234 i235 i236 i237 i238 i239 i240 i241 i242 i243 i245 i246 i247 i248 i250 i251 i252 i253 i254 i255 i256 i257 i258 i259 i260 i261 i262 i263 i264 i265 i266 i267 i268 i269 i270 i271 i279 i280 i281 i282 i283 i284 i286 i287 i288 i289 i291 i302 i304 i305 i313 i314 i315 i316 i317 i318 i319 i320 i321 i322 i323 i324 i325 i326 i327 i328 i330 i331 i332 i333 i334 i335 i336 i337 i338 i339 i340 i341 i342 i343 i344 i345 i346 i347 i348 i349 i350 i351 i352 i353 i354 i355 i358 i360 i369 i370 i375 i376 i377 i378 i379 i380 i381 i382 i383 i385 i394 i395 i396 i397 i398 i399 i400 i403 i404 i405 i407 i411 i413 i415 i417 i421 i422 i423 i424 i425 i426 i428 i429 i431 i432 i435 i436 i437
end Go.Proofs.W9
namespace Pc
def plain(c:Ui):Bool:=(97<=c&&c<=122)||(65<=c&&c<=90)||(48<=c&&c<=57)||c==45||c==46||c==95||c==126
def Dw(c:Ui):Int:=if 48<=c&&c<=57 then c.toNat-48 else if 97<=c&&c<=102 then c.toNat-87 else if 65<=c&&c<=70 then c.toNat-55 else -1
def K5(n:Nat):Ui:=if n<10 then UInt8.ofNat (48+n)else UInt8.ofNat (55+n)
def K8(c:Ui):Lu:=[37,K5 (c.toNat/16),K5 (c.toNat%16)]
def El(c:Ui):Lu:=if plain c then[c]else K8 c
def byteOf(a b:Ui):Ui:=UInt8.ofNat (16*Dw a+Dw b).toNat
def told:List UInt8->Option UInt8
 | a::b::_=>if Dw a<0\/Dw b<0 then none else some (byteOf a b)
 | _=>none
def kD:Nat->List UInt8->Option (List UInt8)
 | 0,_=>some []
 | _+1,[]=>some []
 | f+1,c::r=>if c=37 then match told r with
   | none=>none
   | some v=>(kD f (r.drop 2)).map (El v++·)
  else(kD f r).map (c::·)
def DN(s:Lu):Option Lu:=kD (s.length+1) s
theorem gX{r:Lu}{v:Ui}(h:told r=some v):2<=r.length:=by
 match r,h with
 | a::b::_,_=>simp
 | [_],h=>simp[told]at h
 | [],h=>simp[told]at h
theorem wP:∀(f g:Nat) (s:Lu),s.length<f->s.length<g->kD f s=kD g s
 | 0,_,_,h,_=>by omega
 | _+1,0,_,_,h=>by omega
 | f+1,g+1,[],_,_=>rfl
 | f+1,g+1,c::r,a,b=>by
  simp only[kD]
  split
  ·cases d:told r with
   | none=>rfl
   | some v =>
    simp only
    have:=gX d
    simp only[Y4]at a b
    rw[wP f g (r.drop 2) (by rw[Y6];omega) (by rw[Y6];omega)]
  ·simp only[Y4]at a b
   rw[wP f g r om om]
theorem TG:DN []=some []:=rfl
theorem QH(c:Ui)(r:Lu):DN (c::r)=if c=37 then match told r with
   | none=>none
   | some v=>(DN (r.drop 2)).map (El v++·)
  else(DN r).map (c::·):=by
 unfold DN;simp only[Y4,kD]
 split
 ·cases a:told r with
  | none=>rfl
  | some v =>
   simp only
   have:=gX a
   rw[wP (r.length+1) ((r.drop 2).length+1) (r.drop 2) (by rw[Y6];omega) om]
 ·rfl
theorem sN(c:Ui):Dw c=-1\/(0<=Dw c/\Dw c<=15):=by
 unfold Dw;simp only[Yb,decide_eq_true_eq,Vz]
 have a:(48:Ui).toNat=48:=rfl;have b:(57:Ui).toNat=57:=rfl;have d:(97:Ui).toNat=97:=rfl;have e:(102:Ui).toNat=102:=rfl;have f:(65:Ui).toNat=65:=rfl;have g:(70:Ui).toNat=70:=rfl;rw[a,b,d,e,f,g];split
 ·right;omega
 ·split
  ·right;omega
  ·split
   ·right;omega
   ·left;rfl
theorem Xwu:∀(s t:Lu),DN s=some t->t.length<=s.length:=by
 intro s
 induction hn:s.length using Nat.strongRecOn generalizing s with
 | _ n d =>
  intro t h;cases s with
  | nil=>rw[TG]at h;injection h with h;subst h;simp
  | cons c r =>
   rw[QH]at h;simp only[Y4]at hn
   split at h
   ·cases b:told r with
    | none=>rw[b]at h;cases h
    | some v =>
     rw[b]at h;simp only at h
     have e:=gX b;cases a:DN (r.drop 2)with
     | none=>rw[a]at h;cases h
     | some u =>
      rw[a]at h;simp at h
      subst h
      have:=d (r.drop 2).length (by rw[Y6];omega) (r.drop 2) O u a
      rw[Y6]at this;rw[Y0]
      have:(El v).length<=3:=by unfold El;split<;>simp[K8]
      omega
   ·cases a:DN r with
    | none=>rw[a]at h;cases h
    | some u =>
     rw[a]at h;simp at h
     subst h
     have:=d r.length om r O u a
     simp only[Y4]
     omega
theorem Xj{p:Ui->Bool}(h:(List.range 256).all (λn=>p (UInt8.ofNat n))=true)(c:Ui):p c=true:=by
 have:=Dy.1 h c.toNat (oZ.2 c.toNat_lt)
 simpa using this
def Fs:Lu:=[48,49,50,51,52,53,54,55,56,57,65,66,67,68,69,70]
theorem Xo1(a b:Ui)(e:0<=Dw a)(f:0<=Dw b):((byteOf a b).toNat:Int)=16*Dw a+Dw b:=by
 have c:=sN a;have d:=sN b;unfold byteOf
 rw[UInt8.toNat_ofNat'];omega
end Pc
namespace Go.Proofs.W9
open Gk Pc
open Tryz
theorem Xt:prog.info? 5=some t5:=by kernel_rfl
theorem wL:prog.info? 68=some t68:=by kernel_rfl
def Bw(I:Im):Prop:=At I (ad 3 0) (Aj Fs)
theorem Bw.mono(h:Bw I)(a:Le I J):Bw J:=At.mono h a
theorem SM(c:Ui):((((((decide (97<=(c.toNat:Int))&&decide ((c.toNat:Int)<=122))||(decide (65<=(c.toNat:Int))&&decide ((c.toNat:Int)<=90)))||(decide (48<=(c.toNat:Int))&&decide ((c.toNat:Int)<=57)))||((c.toNat:Int)==45))||((c.toNat:Int)==46))||((c.toNat:Int)==95)||((c.toNat:Int)==126))=plain c :=
 eq_of_beq (Xj (p:=λc=>((((((decide (97<=(c.toNat:Int))&&decide ((c.toNat:Int)<=122))||(decide (65<=(c.toNat:Int))&&decide ((c.toNat:Int)<=90)))||(decide (48<=(c.toNat:Int))&&decide ((c.toNat:Int)<=57)))||((c.toNat:Int)==45))||((c.toNat:Int)==46))||((c.toNat:Int)==95)||((c.toNat:Int)==126))==plain c) dk c)
theorem Pe(h:n<16):(Aj Fs)[n]?=some (U8 (K5 n).toNat):=by
 have:∀n:Fin 16,Fs[n.val]?=some (K5 n.val):=by decide+kernel
 rw[Yu,this ⟨n,h⟩];rfl
theorem Aaj(c:Ui):((c.toNat:Int)/2^(4:Int).toNat)=((c.toNat/16:Nat):Int):=by
 show(c.toNat:Int)/16=_
 omega
theorem qW(c:Ui):bits .and .u8 (c.toNat:Int) 15=((c.toNat%16:Nat):Int) :=
 eq_of_beq (Xj (p:=λc=>bits .and .u8 (c.toNat:Int) 15==((c.toNat%16:Nat):Int)) dk c)
theorem nw(c:Ui)(w:Wo):
  Cz 241 [U8 c.toNat] w λv w'=>v=.bool (plain c)/\w=w':=by
 refine gH 14 (gH 14 ?_);exact gG 12 ⟨Ye Value.bool (SM c),O⟩
theorem Xgh(c:Ui)(f:Bw I)(N:La)(a:Aa B w I N):
  Ce B I N 255 [U8 c.toNat] w (S (K8 c)):=by
 refine gG 1 ?_;have d:c.toNat/16<16:=by have:=c.toNat_lt;omega
 have b:c.toNat%16<16:=om
 refine .tail 8 kr kr ?_;replace a:=a.drew;generalize w.drew=w at a ⊢;refine .vm O O (.val (.shr (.of O) (.of O) de de) O ?_);rw[Aaj c];refine .val (.Dz (i:=((c.toNat/16:Nat):Int)) (.of O) (.of O) om om N1 Cw) O ?_;refine .val (.BG (.of O) a (f.add _) EA (by rw[GI,DG,Ca];(try rw[Yh]);exact Pe d)) O ?_;refine .vm O O (.val (.DB (.inl O) (.of O) (.of O)) O ?_);rw[qW c];refine .val (.Dz (i:=((c.toNat%16:Nat):Int)) (.of O) (.of O) om om N1 Cw) O ?_;refine .val (.BG (.of O) a (f.add _) EA (by rw[GI,DG,Ca];(try rw[Yh]);exact Pe b)) O ?_;refine .nil ?_;show WL _ _ _ _ _ _ _
 refine .dr (gH 1 ?_);intro g w a;refine .val (.DA (l:=K8 c) (cap:=3) (.of O) a (k:=0) O BC BW Bb (λj h=>by
  have e:j<3:=h
  match j,e with
  | 0,_=>rfl
  | 1,_=>rfl
  | 2,_=>rfl)) O ?_
 exact gG 1 ⟨O,a.s⟩
def Tu(c:Ui):Ui:=if 97<=c&&c<=102 then c-32 else c
theorem mS{c:Ui}(h:97<=c.toNat/\c.toNat<=102):(c.toNat:Int)-32=((Tu c).toNat:Int):=by
 have:=Xj (p:=λc=>!(decide (97<=c.toNat/\c.toNat<=102))||(c.toNat:Int)-32==((Tu c).toNat:Int)) dk c
 simpa[h]using this
theorem mT{c:Ui}(h:¬ (97<=c.toNat/\c.toNat<=102)):Tu c=c:=by
 have:=Xj (p:=λc=>decide (97<=c.toNat/\c.toNat<=102)||Tu c==c) dk c
 simpa[h]using this
theorem mR{c:Ui}(h:i<16)(a:Tu c=Fs.getD i 0):Dw c=(i:Int):=by
 have:=Xj (p:=λc=>(List.range 16).all λi=>!(Tu c==Fs.getD i 0)||Dw c==(i:Int)) dk c
 have:=Dy.1 this i (oZ.2 h)
 simpa[a]using this
theorem gh{c:Ui}(h:∀i,i<16->Fs.getD i 0≠Tu c):Dw c=-1:=by
 have:=Xj (p:=λc=>(List.range 16).any (λi=>Fs.getD i 0==Tu c)||Dw c == -1) dk c
 simp only[I0,beq_iff_eq]at this
 rcases this with a|a
 ·obtain⟨i,hi,b⟩:=vg.1 a;simp only[beq_iff_eq]at b
  exact Aw b (h i (oZ.1 hi))
 ·exact a
theorem Xoi(c:Ui)(p:Bw I)(N:La)(d:Aa B w I N):
  Ce B I N 431 [U8 c.toNat] w (Ab (Dw c)):=by
 refine gH 1 (.nil (.lx (σ:=Ui) (λu=>[(0,U8 u.toNat)]) (λu w=>u=Tu c/\Aa B w I N) ?_ ?_))
 ·refine gM 6 ?_ ?_<;>intro b l
  ·refine gH 1 ?_;refine .val (.ZY (.of O) (.of O) (by rw[IntKind.wrap_u8];simp only[Yb,decide_eq_true_eq]at b;omega)) O ?_;refine gG 1 (⟨Tu c,⟨?_,trivial⟩,O,d⟩);have f:97<=c.toNat/\c.toNat<=102:=by simp only[Yb,decide_eq_true_eq]at b;omega
   show some (Value.int .u8 ((c.toNat:Int)-32))=some (U8 ((Tu c).toNat:Int))
   rw[mS f]
  refine gG 0 (⟨Tu c,⟨?_,trivial⟩,O,d⟩);have f:¬ (97<=c.toNat/\c.toNat<=102):=by simp only[iI,decide_eq_false_iff_not]at b;omega
  show some (U8 (c.toNat:Int))=some (U8 ((Tu c).toNat:Int))
  rw[mT f]
 rintro u w ⟨o,d⟩;refine gG 0 (.val (.D7 (.of O) d p isAgg450 sizeOf450 O (λ_ _ h=>h)) O (gG 1 (.lk [0,13] (σ:=Nat) (λi _m=>(14,Ab (i:Nat))::_m) (λi w=>i<=16/\(∀j,j<i->Fs.getD j 0≠u)/\Aa B w I N) (λi=>16-i) 0 ⟨de,λ_ h=>Aw h om,d⟩ ?_)));rintro i w ⟨hi,g,d⟩;refine gN 1 ?_ ?_<;>intro m
 ·refine gH 1 ?_;refine .val (.XE (v:=U8 (Fs.getD i 0).toNat) (.of O) (.of O) om om N1 Cw EA (by rw[Yu];(try rw[Yh]);rw[Ya,Y2 (show i<Fs.length by have:Fs.length=16:=rfl;omega)];rfl)) O ?_;refine gM 5 ?_ ?_<;>intro a n
  ·refine gG 2 (⟨?_,d⟩);simp only[beq_iff_eq]at a
   rw[o]at a;rw[mR (c:=c) (i:=i) om (GL.1 om)]
  refine gG 2 (rd (i+1) ⟨om,λj q=>?_,d⟩);rcases Yz j i with k|k
  ·exact g j k
  ·have e:j=i:=om
   subst e;simp only[beq_eq_false_iff_ne]at a
   exact λe=>a (by rw[e])
 refine gG 1 (⟨?_,d⟩);rw[o]at g;rw[gh (c:=c) (λj q=>g j om)]
def mQ(a b:Int):Int:=IntKind.u8.wrap (bits .or .i64 (IntKind.i64.wrap (a*2^(4:Int).toNat)) (bits .and .i64 b 15))
theorem Tq(a b:Ui)(c:0<=Dw a)(d:0<=Dw b):mQ (Dw a) (Dw b)=((Pc.byteOf a b).toNat:Int):=by
 rw[Xo1 a b c d];have e:=sN a;have f:=sN b;have h:∀x y:Fin 16,mQ (x.val:Int) (y.val:Int)=16*(x.val:Int)+(y.val:Int):=by decide+kernel
 have:=h ⟨(Dw a).toNat,om⟩ ⟨(Dw b).toNat,om⟩
 simp only[iJ c,iJ d]at this
 exact this
theorem aD(s:Lu)(i:Int)(d:0<=i)(e:i<=9223372036854775800)(c:Bw I)(N:La)(a:Aa B w I N):
  Ce B I N 411 [S s,Ab i] w (if(s.length:Int)<=i+2 then .tuple #[.int .u8 0,.bool false]else .tuple #[.int .u8 (mQ (Dw (at_ s (i+1))) (Dw (at_ s (i+2)))),.bool (decide (0<=Dw (at_ s (i+1)))&&decide (0<=Dw (at_ s (i+2))))]):=by
 refine gN 7 ?_ ?_<;>intro b
 ·exact gG 2 ⟨by rw[Y7 b],a⟩
 refine gG 0 (.qt a (.val (λw a=>(.mo O)) O (.val (λw a=>(.mo O)) O (.val (λw a=>(.add (.of O) (.of O) ⟨om,om⟩)) O (.val (λw a=>(.index (.of O) (.of O) om om Bb)) O (.call func431 O (AM O X3) O (λw a=>Xoi (at_ s (i+1)) c _ a) (.val (λw a=>(.mo O)) O (.val (λw a=>(.mo O)) O (.val (λw a=>(.add (.of O) (.of O) ⟨om,om⟩)) O (.val (λw a=>(.index (.of O) (.of O) om om Bb)) O (.call func431 O (AM O X3) O (λw a=>Xoi (at_ s (i+2)) c _ a) (.val (λw a=>(.ao O)) O (.val (λw a=>(.ao O)) O (.nil ?_))))))))))))));intro w a;refine gH 3 (.val (.DB (.inl O) (.of O) (.of O)) O (.val (.DB (.inr (.inl O)) (.of O) (.of O)) O (.val (.Fi (.of O) B5 BW) O ?_)));exact gG 8 ⟨by rw[Y3 om];rfl,a⟩
theorem Xer(c:Ui)(b:Bool)(h:Bw I)(N:La)(a:Aa B w I N):
  Ce B I N 422 [U8 c.toNat,.bool b] w (S (if(b&&!plain c)=true then K8 c else[c])):=by
 refine gH 4 (.AA (T:=λw=>Aa B w I N) O O O func241 O (λe=>(X4 (.gd e O) X3)) O (λe=>QK (nw c w) a) a ?_);clear a;rintro w a;refine gM 2 ?_ ?_<;>intro d f
 ·refine gE 1 (Xgh c h) ?_;intro w a;exact gG 1 ⟨by rw[Y7 d],a⟩
 refine gH 2 ?_;intro g w a;refine .val (.r6 (c:=c) (.of O) a (k:=0) O O BC BW Bb) O ?_;exact gG 1 ⟨by rw[Y3 (by rw[d];simp)],a.s⟩
theorem vU(a:Nat)(p v:Va)(c:p=.pointer none\/p=ptr a 0)(F:La)(b:Aa B w I (Ad a [p,v] 68::F)):
  Calls prog 49 #[ptr a 0] w (AY λu w'=>u=.tuple #[]/\Aa B w' I (Ad a [ptr a 0,v] 68::F)):=by
 rcases c with rfl|rfl
 ·refine gG 5 (.CU (rfl) (gH 2 (.val (.aA (.of O) b (k:=0) O Qz NV wL de sz) O (.val (.extern func96 kr kr kr (e:=Extern.AbiNoEscape.same) kr (AM O X3) (Go.Lib.run_noEscape w _)) O (.val (.Mf (.of O) b (k:=0) O NV Qz wL kr) O ?_)))));refine gG 3 ?_;intro w b;exact⟨O,b⟩
 ·refine gG 5 (.Bt (rfl) (gH 5 (.val (.eZ (.of O) (.of O) Qz wL trivial) O (gG 0 (.Bt (rfl) ?_)))));exact gG 0 ⟨O,b⟩
theorem X9y(a:Nat)(p v:Va)(l:Lu)(c:Ui)(i:p=.pointer none\/p=ptr a 0)(F:La)(b:Aa B w I (Ad a [p,v] 68::Ao 5 1 v l.length (Aj l)::F))(k:l.length<=140737488000000):
  Calls prog 25 #[ptr a 0,U8 c.toNat] w (AY λu w'=>u=.nilIface/\∃e,Aa B w' I (Ad a [ptr a 0,e] 68::Ao 5 1 e (l++[c]).length (Aj (l++[c]))::F)):=by
 refine gE 2 (vU a p v i) ?_;intro w b;obtain⟨m,n,rfl,j,_⟩:=b.vS 1;refine gG 12 ?_;intro g f h d w b;exact⟨O,_,su b⟩
theorem Xo(b:Nat)(p v:Va)(l s:Lu)(g:p=.pointer none\/p=ptr b 0)(F:La)(a:Aa B w I (Ad b [p,v] 68::Ao 5 1 v l.length (Aj l)::F))(j:l.length+s.length<=140737488000000):
  Calls prog 20 #[ptr b 0,S s] w (AY λu w'=>u=.tuple #[Ab s.length,.nilIface]/\∃d,Aa B w' I (Ad b [ptr b 0,d] 68::Ao 5 1 d (l++s).length (Aj (l++s))::F)):=by
 refine gE 3 (vU b p v g) ?_;intro w a;obtain⟨m,n,rfl,h,_⟩:=a.vS 1;refine gH 6 (.DH a (.of O) (.of O) (k:=1) O BC Bb Xt O O O om O ?_);intro i w a;dsimp only[List.set]at a;obtain⟨e,f,rfl,c,_⟩:=a.vS 1;refine gG 7 ?_;intro w a;exact⟨O,_,su a⟩
theorem nt(d:Nat)(p v:Va)(l:Lu)(h:l=[]->v=.slice none 0 0)(F:La)(a:Aa B w I (Ad d [p,v] 68::Ao 5 1 v l.length (Aj l)::F)):
  Calls prog 23 #[ptr d 0] w (AY λu w'=>u=S l/\Aa B w' I F):=by
 by_cases b:l=[]
 ·obtain rfl:=h b;subst b;refine gG 1 (.tail 10 kr kr ?_);replace a:=a.drew;generalize w.drew=w at a ⊢;refine .vm O O (.val (.no O) O ?_);refine .val (by exact .fo 1 O JB O O FR O) O ?_;refine .val (by exact(.lo O a (k:=0) O KZ O)) O ?_;refine .val (.ID (.of O)) O (.vm O O (.val (.no O) O ?_));refine .val (by exact .fo 1 O JB O O FR O) O ?_;refine .val (by exact(.lo O a (k:=0) O KZ O)) O ?_;refine .val (.Bo (.of O) BC) O (.nil ?_);show WL _ _ _ _ _ _ _
  refine .dr (.val (.E6 (.of O) (.of O)) O ?_);exact gG 1 ⟨O,a.s⟩
 ·have f:0<l.length:=LU.2 b;obtain⟨n,o,r,rfl,i,c,j,m,e⟩:=a.AF (k:=1) O f;clear a;have a:=e;clear e;try dsimp only[List.set]at a
  have g:l.length<=9223372036854775807:=by unfold maxLen at c;omega
  refine gG 1 (.tail 10 kr kr ?_);replace a:=a.drew;generalize w.drew=w at a ⊢;refine .vm O O (.val (.no O) O ?_);refine .val (by exact .fo 1 O JB O O FR O) O ?_;refine .val (by exact(.lo O a (k:=0) O KZ O)) O ?_;refine .val (.Ta (.of O) om) O (.vm O O (.val (.no O) O ?_));refine .val (by exact .fo 1 O JB O O FR O) O ?_;refine .val (by exact(.lo O a (k:=0) O KZ O)) O ?_;refine .val (.Bo (.of O) BC) O (.nil ?_);show WL _ _ _ _ _ _ _
  refine .dr (.unsafeString a (k:=1) O (.of O) (.of O) b UI kr om O ?_);intro w a;try dsimp only[List.eraseIdx]at a
  exact gG 1 ⟨O,a.s⟩
theorem Qk(c:Ui)(b:Bw I)(N:La)(a:Aa B w I N):Calls prog 422 #[U8 c.toNat,.bool false] w (AY λv w'=>v=S [c]/\Aa B w' I N) :=
 (Xer c false b N a).mono λe w' d=>by
  obtain⟨v,rfl,rfl,h⟩:=d;exact⟨_,O,by simp,h⟩
theorem Ql(c:Ui)(b:Bw I)(N:La)(a:Aa B w I N):Calls prog 422 #[U8 c.toNat,.bool true] w (AY λv w'=>v=S (El c)/\Aa B w' I N) :=
 (Xer c true b N a).mono λe w' d=>by
  obtain⟨v,rfl,rfl,h⟩:=d;refine⟨_,O,?_,h⟩;unfold El;cases plain c<;>rfl
theorem aF(s:Lu)(i:Nat)(l:i<=9223372036854775800)(j:Bw I)(N:La)(g:Aa B w I N):Calls prog 411 #[S s,Ab (i:Nat)] w (AY λv w'=>∃d ok,v=.tuple #[.int .u8 d,.bool ok]/\(match Pc.told (s.drop (i+1))with|none=>ok=false|some b=>ok=true/\d=(b.toNat:Int))/\Aa B w' I N) :=
 (aD s (i:Int) om om j N g).mono λe w' k=>by
  obtain⟨v,rfl,rfl,h⟩:=k
  by_cases a:s.length<=i+2
  ·have:Pc.told (s.drop (i+1))=none:=by
    have a:(s.drop (i+1)).length<=1:=by rw[Y6];omega
    match s.drop (i+1),a with
    | [],_=>rfl
    | [_],_=>rfl
   rw[Y7 om,this];exact⟨_,O,0,false,O,O,h⟩
  ·have f:s.drop (i+1)=at_ s ((i:Int)+1)::at_ s ((i:Int)+2)::s.drop (i+3):=by
    rw[Xf s (show i+1<s.length by omega),Xf s (show i+1+1<s.length by omega)];rfl
   rw[Y3 om,f];refine⟨_,O,_,_,O,?_,h⟩;simp only[Pc.told]
   by_cases c:Dw (at_ s ((i:Int)+1))<0\/Dw (at_ s ((i:Int)+2))<0
   ·rw[Y7 c];simp only[iI,decide_eq_false_iff_not]
    omega
   ·rw[Y3 c];refine⟨?_,Tq _ _ om om⟩;simp only[Yb,decide_eq_true_eq]
    omega
theorem Wv(s:Lu)(E:s.length<=1000000)(m:Bw I)(N:La)(a:Aa B w I N):
  Ce B I N 369 [S s,.func (.func 422) #[] #[]] w (match DN s with|none=>.tuple #[S [],Ab 11]|some t=>.tuple #[S t,Ab 0]):=by
 refine gG 4 ?_;intro k w a;replace a:=(a.Al 5 1).pick 1 O;refine .lk [0,1,6] (σ:=Lu×Va×Va×Nat) (λ(out,p,v,i) _m=>(7,Ab (i:Nat))::_m) (λ(out,p,v,i) w=>i<=s.length/\out.length+(s.length-i)*3<=s.length*3/\DN s=(DN (s.drop i)).map (out++·)/\(p=.pointer none\/p=ptr k 0)/\(out=[]->v=.slice none 0 0)/\Aa B w I (Ad k [p,v] 68::Ao 5 1 v (out).length (Aj (out))::N)) (λ(out,p,v,i)=>s.length-i) ([],.pointer none,.slice none 0 0,0) ⟨Y5 _,by simp,by simp,.inl O,λ_=>rfl,a⟩ ?_;rintro⟨out,p,v,i⟩ w ⟨hi,D,g,C,o,a⟩;refine gN 4 ?_ ?_<;>intro y
 ·refine gM 4 ?_ ?_<;>intro c z
  ·refine gH 4 (.Bu (cap:=[]) func422 O (.of O) (AM O (AM O X3)) O (Qk (at_ s (i:Int)) m _ a) ?_);rintro _ w ⟨rfl,a⟩;refine gC 0 (Xo k p v out _ C _ a (by simp only[Y4,Yi];omega)) ?_;rintro _ w ⟨rfl,u,a⟩;refine gG 3 ?_;have f:at_ s (i:Int)≠37:=λe=>by rw[e]at c;simp at c
   refine Br (_,_,u,i+1) O ⟨om,by rw[Y0];simp only[Y4,Yi];omega,?_,.inr O,λh=>Aw h sz,a⟩;rw[g,Xf s om,QH,Y3 f];cases DN (s.drop (i+1))<;>simp
  refine gF 2 (aF s i om m) ?_;rintro _ w ⟨F,ok,rfl,b,a⟩;refine gM 7 ?_ ?_<;>intro d A
  ·refine gG 2 (⟨?_,a.s⟩);have f:at_ s (i:Int)=37:=GL.1 (by simp only[bne_eq_false_iff_eq]at c;show(at_ s (i:Int)).toNat=37;omega);have l:Pc.told (s.drop (i+1))=none:=by
    cases l:Pc.told (s.drop (i+1))with
    | none=>rfl
    | some v=>rw[l]at b;rw[b.1]at d;simp at d
   have:DN s=none:=by rw[g,Xf s om,QH,Y7 f,l];rfl
   rw[this]
  have f:at_ s (i:Int)=37:=GL.1 (by simp only[bne_eq_false_iff_eq]at c;show(at_ s (i:Int)).toNat=37;omega);obtain⟨x,q⟩:∃v,Pc.told (s.drop (i+1))=some v:=by
   cases l:Pc.told (s.drop (i+1))with
   | some v=>exact⟨v,O⟩
   | none=>rw[l]at b;simp only at b;rw[b]at d;simp at d
  rw[q]at b;obtain⟨_,rfl⟩:=b;have r:=gX q;rw[Y6]at r;have n:(El x).length<=3:=by unfold El;split<;>simp[K8]
  have j:out++El x≠[]:=λe=>by
   have:=(Y6i.1 e).2
   unfold El at this;split at this<;>simp[K8]at this
  refine gH 2 (.Bu (cap:=[]) func422 O (.of O) (AM O (AM O X3)) O (Ql x m _ a) ?_);rintro _ w ⟨rfl,a⟩;refine gC 0 (Xo k p v out _ C _ a om) ?_;rintro _ w ⟨rfl,u,a⟩;refine gG 6 (Br (_,_,u,i+3) O ⟨om,by rw[Y0];omega,?_,.inr O,λh=>Aw h j,a⟩);rw[g,Xf s om,QH,Y7 f,q];simp only[JU]
  cases DN (s.drop (i+3))<;>simp[Yg,vl]
 refine gE 0 (nt k p v out o) ?_;intro w a;refine gG 2 (⟨?_,a⟩)
 have:DN s=some out:=by rw[g,Yo om,TG];simp
 rw[this]
theorem lC(s:Lu)(g:s.length<=1000000)(d:Bw I)(N:La)(c:Aa B w I N):Calls prog 369 #[S s,.func (.func 422) #[] #[]] w (AY λv w'=>∃a b,v=.tuple #[a,b]/\.tuple #[a,b]=(match DN s with|none=>Value.tuple #[S [],Ab 11]|some t=>.tuple #[S t,Ab 0])/\Aa B w' I N) :=
 (Wv s g d N c).mono λe w' f=>by
  obtain⟨v,rfl,rfl,h⟩:=f;cases DN s with
  | none=>exact⟨_,O,_,_,O,O,h⟩
  | some t=>exact⟨_,O,_,_,O,O,h⟩
theorem Xtn(s:Lu)(c:s.length<=1000000)(b:Bw I)(N:La)(a:Aa B w I N):
  Ce B I N 398 [S s] w (match DN s with|none=>.tuple #[S [],Ab 11]|some t=>.tuple #[S t,Ab 0]):=by
 refine gF 3 (lC s c b) ?_;rintro _ w ⟨e,f,rfl,d,a⟩;exact gG 4 ⟨d,a⟩
end Go.Proofs.W9
namespace Ul
open Pc Gk
def lo(c:Ui):Ui:=if 65<=c&&c<=90 then c+32 else c
def low(s:Lu):Lu:=s.map lo
theorem gY(s:Lu):(low s).length=s.length:=Ym ..
def K_(s:Lu)(i:Nat):Lu:=low (s.take i)++s.drop i
theorem mid_zero(s:Lu):K_ s 0=s:=by simp[K_,low]
theorem mid_end(s:Lu)(i:Nat)(h:s.length<=i):K_ s i=low s:=by
 simp[K_,Yk h,Yo h]
theorem Py(s:Lu)(i:Nat):(K_ s i).length=s.length:=by
 simp[K_,low];omega
theorem YE(s:Lu)(i:Nat)(h:i<s.length):(K_ s i)[i]?=some (at_ s i):=by
 have e:(low (s.take i)).length=i:=by rw[gY,Yj];omega
 unfold K_;rw[Yy om,e,o3,Xf s h];rfl
theorem Xwp(s:Lu)(i:Nat)(h:i<s.length):(K_ s i).set i (lo (at_ s i))=K_ s (i+1):=by
 have e:(low (s.take i)).length=i:=by rw[gY,Yj];omega
 unfold K_;rw[oQ _ _ om,e,o3,Xf s h,List.set_cons_zero,Yv,low,low,Yn,Yg]
 congr 1
 have:s[i]?=some (at_ s i):=by
  rw[Y2 h,at_,Yh,Ya,Y2 h];rfl
 rw[this];rfl
theorem rC{c:Ui}(h:65<=(c.toNat:Int)/\(c.toNat:Int)<=90):((lo c).toNat:Int)=c.toNat+32:=by
 have d:(65<=c&&c<=90)=true:=by
  simp only[Yb,decide_eq_true_eq,Vz]
  have a:(65:Ui).toNat=65:=rfl;have b:(90:Ui).toNat=90:=rfl;rw[a,b];omega
 rw[lo,Y7 d,UInt8.toNat_add]
 have:(32:Ui).toNat=32:=rfl
 rw[this];omega
theorem rB{c:Ui}(h:¬ (65<=(c.toNat:Int)/\(c.toNat:Int)<=90)):lo c=c:=by
 have d:¬ (65<=c&&c<=90)=true:=by
  simp only[Yb,decide_eq_true_eq,Vz]
  have a:(65:Ui).toNat=65:=rfl;have b:(90:Ui).toNat=90:=rfl;rw[a,b];omega
 rw[lo,Y3 d]
theorem ZO{l:List α}{a:α}(h:l[i]?=some a):l.set i a=l:=by
 apply OD
 intro j;rw[oU];split
 ·rename_i e
  subst e;rw[h,Y7 (Y1.1 h).1]
 ·rfl
theorem YF(s:Lu)(i:Nat)(h:i<s.length)(a:lo (at_ s i)=at_ s i):K_ s i=K_ s (i+1):=by
 rw[<-Xwp s i h,a];exact(ZO (YE s i h)).symm
def Kd(c:Ui):Bool:=plain c&&!(c==95||c==126)
def TL(s:Lu):Bool:=!(s.isEmpty||decide (64<s.length))&&s.all Kd
theorem Xpa(c:Ui):((!plain c||((c.toNat:Int)==95))||((c.toNat:Int)==126))=!Kd c :=
 eq_of_beq (Xj (p:=λc=>((!plain c||((c.toNat:Int)==95))||((c.toNat:Int)==126))==!Kd c) dk c)
def sj:Lu:=[34,60,62,35,92,94,123,124,125,96]
def QQ(c:Ui):Bool:=(33<=c&&c<=126)&&!sj.contains c
theorem Xjr(c:Ui):((decide ((c.toNat:Int)<33)||decide (126<(c.toNat:Int)))||decide (0<=Go.Lib.indexByte sj c))=!QQ c :=
 eq_of_beq (Xj (p:=λc=>((decide ((c.toNat:Int)<33)||decide (126<(c.toNat:Int)))||decide (0<=Go.Lib.indexByte sj c))==!QQ c) dk c)
theorem n4{p:Ui->Bool}{s:Lu}(h:∀j,j<i->j<s.length->p (at_ s (j:Int))=true)(hi:s.length<=i):s.all p=true:=by
 rw[Dy];intro x hx;obtain⟨j,a,e⟩:=List.mem_iff_getElem.1 hx
 have:=h j om a
 rw[at_,Yh,Ya,Y2 a]at this;rw[<-e];exact this
theorem p_{p:Ui->Bool}{s:Lu}(hi:i<s.length)(h:p (at_ s (i:Int))=false):s.all p=false:=by
 rw[kR];refine⟨at_ s (i:Int),?_,by rw[h];decide⟩;rw[at_,Yh,Ya,Y2 hi];exact iO _
def K3(c:Ui):Bool:=48<=c&&c<=57
def val(s:Lu):Nat:=s.foldl (λn c=>10*n+(c.toNat-48)) 0
def Gz(s:Lu):Bool:=s.all K3&&!(s.headD 0==48)&&decide (1<=val s)&&decide (val s<=65535)
theorem Xvd(c:Ui):(decide ((c.toNat:Int)<48)||decide (57<(c.toNat:Int)))=!K3 c :=
 eq_of_beq (Xj (p:=λc=>(decide ((c.toNat:Int)<48)||decide (57<(c.toNat:Int)))==!K3 c) dk c)
theorem P7(s:Lu)(c:Ui):val (s++[c])=10*val s+(c.toNat-48):=by simp[val,K9]
theorem p6(s:Lu)(i:Nat)(h:i<s.length):val (s.take (i+1))=10*val (s.take i)+((at_ s (i:Int)).toNat-48):=by
 have:s[i]?=some (at_ s i):=by
  rw[Y2 h,at_,Yh,Ya,Y2 h];rfl
 rw[Yv,this];exact P7 _ _
theorem aN(s:Lu):∀(i j:Nat),i<=j->val (s.take i)<=val (s.take j):=by
 intro i j h
 induction j with
 | zero=>rw[show i=0 by omega];exact Y9 _
 | succ j a =>
  by_cases e:i=j+1
  ·rw[e];exact Y9 _
  ·by_cases c:j<s.length
   ·have:=a om
    rw[p6 s j c];omega
   ·have:=a om
    have b:s.take (j+1)=s.take j:=by rw[Yk om,Yk om]
    rw[b];exact this
theorem gj(s:Lu)(h:6<=s.length)(d:K3 (at_ s 0)=true)(f:at_ s 0≠48):65535<val s:=by
 have n:1<=val (s.take 1):=by
  rw[p6 s 0 om];have a:=d;simp only[K3,Yb,decide_eq_true_eq,Vz]at a
  have c:(48:Ui).toNat=48:=rfl;rw[c]at a
  have:(at_ s 0).toNat≠48:=λe=>f (GL.1 e)
  show 1<=_+((at_ s 0).toNat-48)
  omega
 have step:∀i,i<s.length->10*val (s.take i)<=val (s.take (i+1)):=λi hi=>by rw[p6 s i hi];omega
 have g:10*val (s.take 1)<=val (s.take 2):=step 1 om;have j:10*val (s.take 2)<=val (s.take 3):=step 2 om;have k:10*val (s.take 3)<=val (s.take 4):=step 3 om;have l:10*val (s.take 4)<=val (s.take 5):=step 4 om;have m:10*val (s.take 5)<=val (s.take 6):=step 5 om;have b:=aN s 6 s.length h;rw[GK]at b;omega
def E0:Lu:=[104,116,116,112]
def QX:Lu:=[104,116,116,112,115]
def KB(s:Lu):Nat:=if s=QX then 443 else 80
def Q0(s a:Lu):Nat:=if val s=KB a then 0 else val s
def BD(a s:Lu):Lu:=s.takeWhile λc=>!a.contains c
def Xu(a s:Lu):Lu:=s.dropWhile λc=>!a.contains c
theorem gO(a s:Lu):BD a s++Xu a s=s:=Y5e
theorem yH{BF:Lu}:∀{s:Lu} {i:Nat},Go.Lib.indexAny s BF=i->BD BF s=s.take i/\Xu BF s=s.drop i/\i<s.length
 | [],i,h=>by simp[Go.Lib.indexAny]at h
 | b::l,i,h=>by
  rw[Go.Lib.indexAny]at h;split at h
  ·rename_i f
   have:i=0:=om
   subst this;have d:b∈BF:=su f
   simp[BD,Xu,d]
  ·rename_i f
   have d:BF.contains b=false:=su f
   split at h
   ·omega
   ·have n:=Go.Lib.indexAny_ge BF l
    rename_i g
    have j:Go.Lib.indexAny l BF≠-1:=λe=>g (beq_iff_eq.2 e)
    obtain⟨k,o⟩:∃k:Nat,Go.Lib.indexAny l BF=k:=⟨(Go.Lib.indexAny l BF).toNat,om⟩
    obtain⟨a,m,c⟩:=yH o
    have:i=k+1:=om
    subst this;refine⟨?_,?_,by simp;omega⟩
    ·show(b::l).takeWhile _=_
     rw[u9];simp only[d,iT,if_true,Q9]
     rw[<-a];rfl
    ·show(b::l).dropWhile _=_
     rw[u4];simp only[d,iT,if_true,Em]
     rw[<-m];rfl
theorem xT{BF:Lu}:∀{s:Lu},Go.Lib.indexAny s BF=-1->BD BF s=s/\Xu BF s=[]
 | [],_=>⟨O,O⟩
 | b::l,h=>by
  rw[Go.Lib.indexAny]at h;split at h
  ·omega
  ·rename_i f
   have d:BF.contains b=false:=su f
   split at h
   ·rename_i e
    obtain⟨a,c⟩:=xT (BF:=BF) (beq_iff_eq.1 e);refine⟨?_,?_⟩
    ·show(b::l).takeWhile _=_
     rw[u9];simp only[d,iT,if_true]
     show b::BD BF l=_
     rw[a]
    ·show(b::l).dropWhile _=_
     rw[u4];simp only[d,iT,if_true]
     exact c
   ·have g:=Go.Lib.indexAny_ge BF l;omega
theorem Xpc{l:Lu}{c:Ui}(h:128<=c.toNat)(f:∀(j:Nat) b,l[j]?=some b->b.toNat<128):Go.Lib.indexByte l c=-1:=by
 have a:=Go.Lib.indexByte_ge l c
 by_cases e:Go.Lib.indexByte l c=-1
 ·exact e
 ·obtain⟨k,d⟩:∃k:Nat,Go.Lib.indexByte l c=k:=⟨(Go.Lib.indexByte l c).toNat,om⟩
  have:=(Go.Lib.indexByte_some d).1
  have:=f _ _ this
  omega
theorem Et{l:Lu}{c:Ui}:(0<=Go.Lib.indexByte l c)↔l.contains c=true:=by
 have b:=Go.Lib.indexByte_ge l c;constructor
 ·intro h;obtain⟨k,a⟩:∃k:Nat,Go.Lib.indexByte l c=k:=⟨(Go.Lib.indexByte l c).toNat,om⟩
  have:=(Go.Lib.indexByte_some a).1
  rw[zn];exact Y8 this
 ·intro h
  by_cases e:Go.Lib.indexByte l c=-1
  ·have:=Go.Lib.indexByte_none e
   rw[zn]at h;obtain⟨k,a⟩:=GH.1 h;exact Aw a (this k)
  ·omega
theorem LA{s:Lu}(h:i<s.length):s[i]?=some (at_ s i):=by
 rw[Y2 h,at_,Yh,Ya,Y2 h];rfl
def gp(s:Lu):Prop:=∀(j:Nat) b,s[j]?=some b->b.toNat<128
def rv(s cs:Lu)(i:Nat):Int:=if(Go.Utf8.decode ⟨s.toArray⟩ i).1<128 then Go.Lib.indexByte cs (UInt8.ofNat (Go.Utf8.decode ⟨s.toArray⟩ i).1)else -1
theorem VQ{s cs:Lu}(f:gp cs)(hi:i<s.length)(c:Go.Lib.NoAny s cs i):
  (0<=rv s cs i->Go.Lib.indexAny s cs=i)/\(rv s cs i<0->Go.Lib.NoAny s cs (i+(Go.Utf8.decode ⟨s.toArray⟩ i).2)/\i+(Go.Utf8.decode ⟨s.toArray⟩ i).2<=s.length/\1<=(Go.Utf8.decode ⟨s.toArray⟩ i).2):=by
 unfold rv;rcases Yz (at_ s (i:Int)).toNat 128 with h|h
 ·rw[w9 s i hi h];rw[Y7 h,show UInt8.ofNat (at_ s (i:Int)).toNat=at_ s (i:Int)by simp,Et];refine⟨λe=>Go.Lib.indexAny_hit c (LA hi) e,λe=>⟨c.succ (LA hi) ?_,om,om⟩⟩;cases d:cs.contains (at_ s (i:Int))with
  | false=>rfl
  | true=>have:=Et.2 d;omega
 ·obtain⟨r,t,l,m,n⟩:=Xoh s i hi h;rw[Y3 om];refine⟨λe=>by omega,λ_=>⟨λj b p d=>?_,m,l⟩⟩;rcases Yz j i with a|a
  ·exact c j b a d
  ·have o:=n j a p;have g:j<s.length:=(Y1.1 d).1;rw[LA g]at d;cases d
   cases e:cs.contains (at_ s (j:Int))with
   | false=>rfl
   | true =>
    rw[zn]at e;obtain⟨k,q⟩:=GH.1 e
    have:=f k _ q
    omega
end Ul
namespace Go.Proofs
open Go.Shelf
open Tryz
def Tryz.Fm:Go.Shelf.Ren:=⟨λ|156=>381|165=>416|166=>20|169=>23|240=>49|241=>433|276=>96|277=>441|n=>n,λ|31=>34|9=>9|3=>3|4=>4|0=>0|20=>20|72=>68|76=>76|70=>66|37=>44|75=>75|127=>128|164=>201|5=>5|80=>79|n=>n,λ|n=>n⟩
theorem Tryz.eQ:Go.Proofs.Lays.n156 prog Fm:={
 mixed:=by kernel_rfl
 f156:=func381.trans (Ye some kr)
 f165:=func416.trans (Ye some kr)
 f166:=func20.trans (Ye some kr)
 f169:=func23.trans (Ye some kr)
 f240:=func49.trans (Ye some kr)
 f241:=func433.trans (Ye some kr)
 f276:=func96.trans (Ye some kr)
 f277:=func441.trans (Ye some kr)
 t0:=ju
 a0:=js
 z0:=jt
 v0:=jx
 t3:=B5
 a3:=BP
 z3:=Bg
 v3:=N5
 t4:=KP
 a4:=IH
 z4:=DT
 v4:=QC
 t9:=Bb
 a9:=Bq
 z9:=A3
 v9:=KQ
 t20:=jv
 a20:=isAgg20
 z20:=sizeOf20
 v20:=jy
 t31:=ET
 a31:=Ji
 z31:=G2
 v31:=cJ
 t37:=BC
 a37:=KZ
 z37:=FR
 v37:=UY
 t70:=Qz
 a70:=isAgg66
 z70:=cI
 v70:=zeroValue66
 t72:=JB
 a72:=isAgg68
 z72:=sizeOf68
 v72:=jA
 t75:=underlying75
 a75:=isAgg75
 z75:=sizeOf75
 v75:=zeroValue75
 t76:=underlying76
 a76:=isAgg76
 z76:=sizeOf76
 v76:=zeroValue76
 t127:=UI
 a127:=isAgg128
 z127:=sizeOf128
 v127:=zeroValue128
 t164:=NV
 a164:=isAgg201
 z164:=sizeOf201
 v164:=zeroValue201 }
theorem Tryz.Eh:Builder.Extra prog Fm:={
 sizeBuilder:=by kernel_rfl
 liesBuilder:=by kernel_rfl
 t5:=BW
 a5:=EA
 z5:=Cw
 v5:=N7
 infoByte:=by kernel_rfl
 cellsByte:=by kernel_rfl
 sizeByte:=by kernel_rfl
 neB5:=by decide }
open Go.RowKit in
theorem strings_Join(g o c:Nat)(xs:List ByteArray)(b:ByteArray)(w:Wo)(a:∀(j:Nat) x,xs[j]?=some x->w.cell? ⟨g,o+j,none⟩=some (.string x))(h:g<w.heap.size)(i:xs.length<=140737488355328)(d:xs.length<=c)(f:(Lib.join (xs.map (·.data.toList)) b.data.toList).length<=140737488355328):
  Calls prog 381 #[.slice (some ⟨g,o,none⟩) xs.length c,.string b] w λe w'=>e=.returned (.string ⟨(Lib.join (xs.map (·.data.toList)) b.data.toList).toArray⟩)/\Below w.heap.size w w':=Any.strings_Join eQ Eh g o c xs b w a h i d f
def Tryz.Kq:Go.Shelf.Ren:=⟨λ|160=>220|232=>307|231=>306|227=>308|234=>310|233=>309|236=>312|235=>311|228=>371|271=>374|151=>373|197=>372|120=>414|152=>413|260=>412|137=>95|119=>432|224=>180|225=>179|217=>178|266=>272|n=>n,λ|9=>9|4=>4|3=>3|5=>5|117=>423|116=>422|0=>0|124=>426|21=>21|105=>474|46=>151|119=>511|139=>514|138=>513|n=>n,λ|3=>9|4=>10|n=>n⟩
theorem Tryz.Ps:Go.Proofs.Lays.n160 prog Kq:={
 mixed:=by kernel_rfl
 f119:=Jg.trans (Ye some kr)
 f120:=func414.trans (Ye some kr)
 f137:=Ll.trans (Ye some kr)
 f151:=func373.trans (Ye some kr)
 f152:=func413.trans (Ye some kr)
 f160:=func220.trans (Ye some kr)
 f197:=func372.trans (Ye some kr)
 f217:=F1.trans (Ye some kr)
 f224:=Hm.trans (Ye some kr)
 f225:=Hl.trans (Ye some kr)
 f227:=func308.trans (Ye some kr)
 f228:=func371.trans (Ye some kr)
 f231:=func306.trans (Ye some kr)
 f232:=func307.trans (Ye some kr)
 f233:=func309.trans (Ye some kr)
 f234:=func310.trans (Ye some kr)
 f235:=func311.trans (Ye some kr)
 f236:=func312.trans (Ye some kr)
 f260:=func412.trans (Ye some kr)
 f266:=F2.trans (Ye some kr)
 f271:=func374.trans (Ye some kr)
 t0:=ju
 a0:=js
 z0:=jt
 v0:=jx
 t3:=B5
 a3:=BP
 z3:=Bg
 v3:=N5
 t4:=KP
 a4:=IH
 z4:=DT
 v4:=QC
 t5:=BW
 a5:=EA
 z5:=Cw
 v5:=N7
 t9:=Bb
 a9:=Bq
 z9:=A3
 v9:=KQ
 t21:=Lq
 a21:=Qo
 z21:=Qu
 v21:=QB
 t46:=kd
 a46:=jU
 z46:=jW
 v46:=kj
 t105:=UO
 a105:=isAgg474
 z105:=sizeOf474
 v105:=UZ
 t116:=underlying422
 a116:=isAgg422
 z116:=sizeOf422
 t117:=underlying423
 a117:=isAgg423
 z117:=sizeOf423
 v117:=zeroValue423
 t119:=UP
 a119:=isAgg511
 z119:=sizeOf511
 t124:=underlying426
 a124:=isAgg426
 z124:=sizeOf426
 v124:=zeroValue426
 t138:=UQ
 a138:=isAgg513
 z138:=sizeOf513
 v138:=U1
 t139:=UR
 a139:=isAgg514
 z139:=sizeOf514
 v139:=U2
 g3:=by kernel_rfl
 g4:=by kernel_rfl }
open Go.RowKit in
theorem strings_Trim_one(s:ByteArray)(c:Ui)(a:c.toNat<128)(w:Wo)(b:s.size<=9223372036854775807):
  Calls prog 220 #[.string s,.string ⟨#[c]⟩] w λe w'=>e=.returned (.string ⟨(Lib.trimB s.data.toList c).toArray⟩)/\(w'=w\/w'=w.drew):=Any.strings_Trim_one Ps s c a w b
def Tryz.Kj:Go.Shelf.Ren:=⟨λ|119=>432|n=>n,λ|21=>21|4=>4|n=>n,λ|n=>n⟩
theorem Tryz.eJ:Go.Proofs.Lays.n119 prog Kj:={
 mixed:=by kernel_rfl
 f119:=Jg.trans (Ye some kr)
 t4:=KP
 a4:=IH
 z4:=DT
 v4:=QC
 t21:=Lq
 a21:=Qo
 z21:=Qu
 v21:=QB }
theorem Tryz.utf8_ValidRune(r:Int)(w:Wo):
  Calls prog 432 #[.int .i32 r] w λe w'=>e=.returned (.bool (Lib.validRune r))/\w'=w:=Any.utf8_ValidRune eJ r w
def Tryz.Ki:Go.Shelf.Ren:=⟨λ|106=>116|213=>208|265=>301|n=>n,λ|9=>9|3=>3|n=>n,λ|n=>n⟩
theorem Tryz.eI:Go.Proofs.Lays.n106 prog Ki:={
 mixed:=by kernel_rfl
 f106:=func116.trans (Ye some kr)
 f213:=func208.trans (Ye some kr)
 f265:=func301.trans (Ye some kr)
 t3:=B5
 a3:=BP
 z3:=Bg
 v3:=N5
 t9:=Bb
 a9:=Bq
 z9:=A3
 v9:=KQ }
open Go.RowKit in
theorem strings_Compare(a b:ByteArray)(w:Wo):
  Calls prog 116 #[.string a,.string b] w λe w'=>e=.returned (.int .i64 (Lib.compareBytes a.data.toList b.data.toList))/\w'=w:=Any.strings_Compare eI a b w
def Tryz.Kk:Go.Shelf.Ren:=⟨λ|137=>95|217=>178|266=>272|n=>n,λ|9=>9|5=>5|3=>3|n=>n,λ|n=>n⟩
theorem Tryz.eK:Go.Proofs.Lays.n137 prog Kk:={
 mixed:=by kernel_rfl
 f137:=Ll.trans (Ye some kr)
 f217:=F1.trans (Ye some kr)
 f266:=F2.trans (Ye some kr)
 t3:=B5
 a3:=BP
 z3:=Bg
 v3:=N5
 t5:=BW
 a5:=EA
 z5:=Cw
 v5:=N7
 t9:=Bb
 a9:=Bq
 z9:=A3
 v9:=KQ }
open Go.RowKit in
theorem strings_IndexByte(s:ByteArray)(c:Int)(w:Wo):
  Calls prog 95 #[.string s,.int .u8 c] w λe w'=>e=.returned (.int .i64 (Lib.indexByte s.data.toList c.toNat.toUInt8))/\w'=w:=Any.strings_IndexByte eK s c w
def Tryz.Kh:Go.Shelf.Ren:=⟨λ|103=>32|210=>62|206=>117|n=>n,λ|9=>9|4=>4|24=>100|3=>3|n=>n,λ|n=>n⟩
theorem Tryz.eH:Go.Proofs.Lays.n103 prog Kh:={
 mixed:=by kernel_rfl
 f103:=func32.trans (Ye some kr)
 f206:=func117.trans (Ye some kr)
 f210:=func62.trans (Ye some kr)
 t3:=B5
 a3:=BP
 z3:=Bg
 v3:=N5
 t4:=KP
 a4:=IH
 z4:=DT
 v4:=QC
 t9:=Bb
 a9:=Bq
 z9:=A3
 v9:=KQ
 t24:=underlying100
 a24:=isAgg100
 z24:=sizeOf100
 v24:=zeroValue100 }
open Go.RowKit in
theorem strings_CutPrefix(s p:ByteArray)(w:Wo):
  Calls prog 32 #[.string s,.string p] w λe w'=>e=.returned (.tuple #[.string ⟨(Lib.trimPrefix s.data.toList p.data.toList).toArray⟩,.bool (Lib.hasPrefix s.data.toList p.data.toList)])/\w'=w:=Any.strings_CutPrefix eH s p w
def Tryz.Iv:Go.Shelf.Ren:=⟨λ|171=>22|243=>50|246=>97|283=>182|284=>183|285=>184|286=>185|129=>275|317=>274|318=>276|319=>277|320=>278|337=>356|338=>357|n=>n,λ|3=>3|9=>9|2=>2|4=>4|171=>296|0=>0|53=>41|37=>44|5=>5|173=>299|212=>393|51=>389|20=>20|213=>394|46=>151|232=>291|233=>494|n=>n,λ|17=>2|18=>5|19=>6|n=>n⟩
theorem Tryz.XO:Go.Proofs.LaysM.n171 prog Iv:={
 mixed:=by kernel_rfl
 f129:=func275.trans (Ye some kr)
 f171:=func22.trans (Ye some kr)
 f243:=func50.trans (Ye some kr)
 f246:=func97.trans (Ye some kr)
 f283:=func182.trans (Ye some kr)
 f284:=func183.trans (Ye some kr)
 f285:=func184.trans (Ye some kr)
 f286:=func185.trans (Ye some kr)
 f317:=func274.trans (Ye some kr)
 f318:=func276.trans (Ye some kr)
 f319:=func277.trans (Ye some kr)
 f320:=func278.trans (Ye some kr)
 f337:=func356.trans (Ye some kr)
 f338:=func357.trans (Ye some kr)
 t0:=ju
 a0:=js
 z0:=jt
 v0:=jx
 t2:=underlying2
 a2:=isAgg2
 z2:=sizeOf2
 v2:=zeroValue2
 t3:=B5
 a3:=BP
 z3:=Bg
 v3:=N5
 t4:=KP
 a4:=IH
 z4:=DT
 v4:=QC
 t5:=BW
 a5:=EA
 z5:=Cw
 v5:=N7
 t9:=Bb
 a9:=Bq
 z9:=A3
 v9:=KQ
 t20:=jv
 a20:=isAgg20
 z20:=sizeOf20
 v20:=jy
 t37:=BC
 a37:=KZ
 z37:=FR
 v37:=UY
 t46:=kd
 a46:=jU
 z46:=jW
 v46:=kj
 t51:=Of
 a51:=Jk
 z51:=Jn
 v51:=N6
 t53:=Qx
 a53:=isAgg41
 z53:=sizeOf41
 v53:=zeroValue41
 t171:=underlying296
 a171:=isAgg296
 z171:=sizeOf296
 v171:=zeroValue296
 t173:=underlying299
 a173:=isAgg299
 z173:=sizeOf299
 v173:=zeroValue299
 t212:=underlying393
 a212:=isAgg393
 z212:=sizeOf393
 v212:=zeroValue393
 t213:=underlying394
 a213:=isAgg394
 z213:=sizeOf394
 t232:=underlying291
 a232:=isAgg291
 z232:=sizeOf291
 v232:=zeroValue291
 t233:=underlying494
 a233:=isAgg494
 z233:=sizeOf494
 v233:=zeroValue494
 g17:=by kernel_rfl
 g18:=by kernel_rfl
 g19:=by kernel_rfl
 i0:=by kernel_rfl
 i2:=by kernel_rfl
 i3:=by kernel_rfl
 i4:=by kernel_rfl
 i5:=by kernel_rfl
 i9:=by kernel_rfl
 i20:=by kernel_rfl
 i37:=by kernel_rfl
 i46:=by kernel_rfl
 i51:=by kernel_rfl
 i53:=by kernel_rfl
 i171:=by kernel_rfl
 i173:=by kernel_rfl
 i212:=by kernel_rfl
 i232:=by kernel_rfl
 i233:=by kernel_rfl
 m17:=by kernel_rfl
 m18:=by kernel_rfl
 m19:=by kernel_rfl }
open Go.RowKit Go.Sort Go.Lib in
theorem strconv_Itoa(n : Int)(b : -9223372036854775808 ≤ n)(c : n ≤ 9223372036854775807)(w : World)(a : Lib.TabIs prog w "internal/strconv.uint64pow10" .u64 Lib.pow10Tab):
  Calls prog 22 #[.int .i64 n] w λe w'=>e=.returned (.string ⟨(Lib.itoa n).toArray⟩)/\∃k os,w'=grow (w.drewN k) os:=Any.strconv_Itoa XO n b c w a
def Tryz.Kl:Go.Shelf.Ren:=⟨λ|145=>18|220=>47|219=>94|217=>178|225=>179|224=>180|267=>181|266=>272|314=>273|n=>n,λ|9=>9|4=>4|59=>70|3=>3|5=>5|46=>151|146=>390|51=>389|n=>n,λ|1=>1|n=>n⟩
theorem Tryz.eL:Go.Proofs.Lays.n145 prog Kl:={
 mixed:=by kernel_rfl
 f145:=func18.trans (Ye some kr)
 f217:=F1.trans (Ye some kr)
 f219:=func94.trans (Ye some kr)
 f220:=func47.trans (Ye some kr)
 f224:=Hm.trans (Ye some kr)
 f225:=Hl.trans (Ye some kr)
 f266:=F2.trans (Ye some kr)
 f267:=func181.trans (Ye some kr)
 f314:=func273.trans (Ye some kr)
 t3:=B5
 a3:=BP
 z3:=Bg
 v3:=N5
 t4:=KP
 a4:=IH
 z4:=DT
 v4:=QC
 t5:=BW
 a5:=EA
 z5:=Cw
 v5:=N7
 t9:=Bb
 a9:=Bq
 z9:=A3
 v9:=KQ
 t46:=kd
 a46:=jU
 z46:=jW
 v46:=kj
 t51:=Of
 a51:=Jk
 z51:=Jn
 v51:=N6
 t59:=underlying70
 a59:=isAgg70
 z59:=sizeOf70
 v59:=zeroValue70
 t146:=UM
 a146:=isAgg390
 z146:=sizeOf390
 v146:=UX
 g1:=by kernel_rfl }
open Go.RowKit Go.Lib in
theorem strings_Cut(s a:ByteArray)(m:Int)(w:Wo)(c:s.size<4294967281)(b:w.cell? ⟨1,0,none⟩=some (.int .i64 m)):
  Calls prog 18 #[.string s,.string a] w λe w'=>e=.returned (.tuple #[.string ⟨(Lib.cut s.data.toList a.data.toList).1.toArray⟩,.string ⟨(Lib.cut s.data.toList a.data.toList).2.1.toArray⟩,.bool (Lib.cut s.data.toList a.data.toList).2.2])/\∃n,w'=w.drewN n:=Any.strings_Cut eL s a m w c b
def Tryz.Ms:Go.Shelf.Ren:=⟨λ|99=>113|206=>117|n=>n,λ|9=>9|4=>4|3=>3|n=>n,λ|n=>n⟩
theorem Tryz.l5:Go.Proofs.Lays.n99 prog Ms:={
 mixed:=by kernel_rfl
 f99:=Jc.trans (Ye some kr)
 f206:=func117.trans (Ye some kr)
 t3:=B5
 a3:=BP
 z3:=Bg
 v3:=N5
 t4:=KP
 a4:=IH
 z4:=DT
 v4:=QC
 t9:=Bb
 a9:=Bq
 z9:=A3
 v9:=KQ }
open Go.RowKit Go.Lib in
theorem strings_HasPrefix(s p:ByteArray)(w:Wo):
  Calls prog 113 #[.string s,.string p] w λe w'=>e=.returned (.bool (Lib.hasPrefix s.data.toList p.data.toList))/\w'=w:=Any.strings_HasPrefix l5 s p w
def Tryz.Km:Go.Shelf.Ren:=⟨λ|146=>214|221=>303|268=>366|138=>367|143=>368|195=>409|197=>372|218=>410|219=>94|260=>412|217=>178|225=>179|224=>180|267=>181|266=>272|314=>273|n=>n,λ|9=>9|31=>34|3=>3|4=>4|0=>0|105=>474|21=>21|5=>5|46=>151|119=>511|139=>514|138=>513|146=>390|51=>389|n=>n,λ|1=>1|3=>9|4=>10|n=>n⟩
theorem Tryz.eM:Go.Proofs.Lays.n146 prog Km:={
 mixed:=by kernel_rfl
 f138:=func367.trans (Ye some kr)
 f143:=func368.trans (Ye some kr)
 f146:=func214.trans (Ye some kr)
 f195:=func409.trans (Ye some kr)
 f197:=func372.trans (Ye some kr)
 f217:=F1.trans (Ye some kr)
 f218:=func410.trans (Ye some kr)
 f219:=func94.trans (Ye some kr)
 f221:=func303.trans (Ye some kr)
 f224:=Hm.trans (Ye some kr)
 f225:=Hl.trans (Ye some kr)
 f260:=func412.trans (Ye some kr)
 f266:=F2.trans (Ye some kr)
 f267:=func181.trans (Ye some kr)
 f268:=func366.trans (Ye some kr)
 f314:=func273.trans (Ye some kr)
 t0:=ju
 a0:=js
 z0:=jt
 v0:=jx
 t3:=B5
 a3:=BP
 z3:=Bg
 v3:=N5
 t4:=KP
 a4:=IH
 z4:=DT
 v4:=QC
 t5:=BW
 a5:=EA
 z5:=Cw
 v5:=N7
 t9:=Bb
 a9:=Bq
 z9:=A3
 v9:=KQ
 t21:=Lq
 a21:=Qo
 z21:=Qu
 v21:=QB
 t31:=ET
 a31:=Ji
 z31:=G2
 v31:=cJ
 t46:=kd
 a46:=jU
 z46:=jW
 v46:=kj
 t51:=Of
 a51:=Jk
 z51:=Jn
 v51:=N6
 t105:=UO
 a105:=isAgg474
 z105:=sizeOf474
 v105:=UZ
 t119:=UP
 a119:=isAgg511
 z119:=sizeOf511
 t138:=UQ
 a138:=isAgg513
 z138:=sizeOf513
 v138:=U1
 t139:=UR
 a139:=isAgg514
 z139:=sizeOf514
 v139:=U2
 t146:=UM
 a146:=isAgg390
 z146:=sizeOf390
 v146:=UX
 g1:=by kernel_rfl
 g3:=by kernel_rfl
 g4:=by kernel_rfl }
open Go.RowKit Go.Lib in
theorem strings_Split(s a:ByteArray)(m:Int)(w:Wo)(d:s.size<4294967281)(c:w.cell? ⟨1,0,none⟩=some (.int .i64 m))(b:1<=a.size):
  Calls prog 214 #[.string s,.string a] w λe w' =>
   e=.returned (.slice (some ⟨w.heap.size,0,none⟩) (Lib.countB s a+1) (Lib.countB s a+1))/\w'=w.alloc (.cells ((Lib.splitB a 0 (Lib.countB s a) s).map Value.string).toArray 9):=Any.strings_Split eM (by kernel_rfl) s a m w d c b
def Tryz.Fl:Go.Shelf.Ren:=⟨λ|155=>426|154=>438|138=>367|165=>416|143=>368|166=>20|197=>372|169=>23|195=>409|218=>410|240=>49|241=>433|219=>94|260=>412|276=>96|277=>441|217=>178|225=>179|224=>180|267=>181|266=>272|314=>273|n=>n,λ|9=>9|3=>3|4=>4|72=>68|0=>0|76=>76|105=>474|21=>21|5=>5|70=>66|20=>20|37=>44|75=>75|127=>128|164=>201|46=>151|119=>511|139=>514|138=>513|146=>390|51=>389|80=>79|n=>n,λ|1=>1|3=>9|4=>10|n=>n⟩
theorem Tryz.eP:Go.Proofs.Lays.n155 prog Fl:={
 mixed:=by kernel_rfl
 f138:=func367.trans (Ye some kr)
 f143:=func368.trans (Ye some kr)
 f154:=func438.trans (Ye some kr)
 f155:=func426.trans (Ye some kr)
 f165:=func416.trans (Ye some kr)
 f166:=func20.trans (Ye some kr)
 f169:=func23.trans (Ye some kr)
 f195:=func409.trans (Ye some kr)
 f197:=func372.trans (Ye some kr)
 f217:=F1.trans (Ye some kr)
 f218:=func410.trans (Ye some kr)
 f219:=func94.trans (Ye some kr)
 f224:=Hm.trans (Ye some kr)
 f225:=Hl.trans (Ye some kr)
 f240:=func49.trans (Ye some kr)
 f241:=func433.trans (Ye some kr)
 f260:=func412.trans (Ye some kr)
 f266:=F2.trans (Ye some kr)
 f267:=func181.trans (Ye some kr)
 f276:=func96.trans (Ye some kr)
 f277:=func441.trans (Ye some kr)
 f314:=func273.trans (Ye some kr)
 t0:=ju
 a0:=js
 z0:=jt
 v0:=jx
 t3:=B5
 a3:=BP
 z3:=Bg
 v3:=N5
 t4:=KP
 a4:=IH
 z4:=DT
 v4:=QC
 t5:=BW
 a5:=EA
 z5:=Cw
 v5:=N7
 t9:=Bb
 a9:=Bq
 z9:=A3
 v9:=KQ
 t20:=jv
 a20:=isAgg20
 z20:=sizeOf20
 v20:=jy
 t21:=Lq
 a21:=Qo
 z21:=Qu
 v21:=QB
 t37:=BC
 a37:=KZ
 z37:=FR
 v37:=UY
 t46:=kd
 a46:=jU
 z46:=jW
 v46:=kj
 t51:=Of
 a51:=Jk
 z51:=Jn
 v51:=N6
 t70:=Qz
 a70:=isAgg66
 z70:=cI
 v70:=zeroValue66
 t72:=JB
 a72:=isAgg68
 z72:=sizeOf68
 v72:=jA
 t75:=underlying75
 a75:=isAgg75
 z75:=sizeOf75
 v75:=zeroValue75
 t76:=underlying76
 a76:=isAgg76
 z76:=sizeOf76
 v76:=zeroValue76
 t105:=UO
 a105:=isAgg474
 z105:=sizeOf474
 v105:=UZ
 t119:=UP
 a119:=isAgg511
 z119:=sizeOf511
 t127:=UI
 a127:=isAgg128
 z127:=sizeOf128
 v127:=zeroValue128
 t138:=UQ
 a138:=isAgg513
 z138:=sizeOf513
 v138:=U1
 t139:=UR
 a139:=isAgg514
 z139:=sizeOf514
 v139:=U2
 t146:=UM
 a146:=isAgg390
 z146:=sizeOf390
 v146:=UX
 t164:=NV
 a164:=isAgg201
 z164:=sizeOf201
 v164:=zeroValue201
 g1:=by kernel_rfl
 g3:=by kernel_rfl
 g4:=by kernel_rfl }
theorem Tryz.Eg:Builder.Extra prog Fl:={
 sizeBuilder:=by kernel_rfl
 liesBuilder:=by kernel_rfl
 t5:=BW
 a5:=EA
 z5:=Cw
 v5:=N7
 infoByte:=by kernel_rfl
 cellsByte:=by kernel_rfl
 sizeByte:=by kernel_rfl
 neB5:=by decide }
open Go.RowKit Go.Lib in
theorem strings_ReplaceAll(s a b:ByteArray)(m:Int)(w:Wo)(g:s.size<4294967281)(f:w.cell? ⟨1,0,none⟩=some (.int .i64 m))(d:1<=a.size)(c:s.size+Lib.countB s a*b.size<=140737488355328):
  Calls prog 426 #[.string s,.string a,.string b] w λe w' =>
   e=.returned (.string ⟨(Lib.replaceAll s.data.toList a.data.toList b.data.toList).toArray⟩)/\Below w.heap.size w w':=Any.strings_ReplaceAll eP Eg s a b m w g f d c
def Tryz.Kn:Go.Shelf.Ren:=⟨λ|152=>413|137=>95|119=>432|224=>180|225=>179|217=>178|266=>272|n=>n,λ|9=>9|21=>21|3=>3|4=>4|5=>5|0=>0|46=>151|n=>n,λ|n=>n⟩
theorem Tryz.eN:Go.Proofs.Lays.n152 prog Kn:={
 mixed:=by kernel_rfl
 f119:=Jg.trans (Ye some kr)
 f137:=Ll.trans (Ye some kr)
 f152:=func413.trans (Ye some kr)
 f217:=F1.trans (Ye some kr)
 f224:=Hm.trans (Ye some kr)
 f225:=Hl.trans (Ye some kr)
 f266:=F2.trans (Ye some kr)
 t0:=ju
 a0:=js
 z0:=jt
 v0:=jx
 t3:=B5
 a3:=BP
 z3:=Bg
 v3:=N5
 t4:=KP
 a4:=IH
 z4:=DT
 v4:=QC
 t5:=BW
 a5:=EA
 z5:=Cw
 v5:=N7
 t9:=Bb
 a9:=Bq
 z9:=A3
 v9:=KQ
 t21:=Lq
 a21:=Qo
 z21:=Qu
 v21:=QB
 t46:=kd
 a46:=jU
 z46:=jW
 v46:=kj }
open Go.RowKit Go.Lib in
theorem strings_IndexRune_ascii(s:ByteArray)(r:Int)(w:Wo)(a:0<=r)(b:r<128):
  Calls prog 413 #[.string s,.int .i32 r] w λe w'=>e=.returned (.int .i64 (Lib.indexByte s.data.toList r.toNat.toUInt8))/\w'=w:=Any.strings_IndexRune_ascii eN s r w a b
def Tryz.Ko:Go.Shelf.Ren:=⟨λ|153=>395|152=>413|226=>421|227=>308|228=>371|137=>95|119=>432|224=>180|225=>179|217=>178|266=>272|n=>n,λ|9=>9|3=>3|4=>4|5=>5|21=>21|117=>423|116=>422|0=>0|46=>151|124=>426|n=>n,λ|n=>n⟩
theorem Tryz.eO:Go.Proofs.Lays.n153 prog Ko:={
 mixed:=by kernel_rfl
 f119:=Jg.trans (Ye some kr)
 f137:=Ll.trans (Ye some kr)
 f152:=func413.trans (Ye some kr)
 f153:=func395.trans (Ye some kr)
 f217:=F1.trans (Ye some kr)
 f224:=Hm.trans (Ye some kr)
 f225:=Hl.trans (Ye some kr)
 f226:=func421.trans (Ye some kr)
 f227:=func308.trans (Ye some kr)
 f228:=func371.trans (Ye some kr)
 f266:=F2.trans (Ye some kr)
 t0:=ju
 a0:=js
 z0:=jt
 v0:=jx
 t3:=B5
 a3:=BP
 z3:=Bg
 v3:=N5
 t4:=KP
 a4:=IH
 z4:=DT
 v4:=QC
 t5:=BW
 a5:=EA
 z5:=Cw
 v5:=N7
 t9:=Bb
 a9:=Bq
 z9:=A3
 v9:=KQ
 t21:=Lq
 a21:=Qo
 z21:=Qu
 v21:=QB
 t46:=kd
 a46:=jU
 z46:=jW
 v46:=kj
 t116:=underlying422
 a116:=isAgg422
 z116:=sizeOf422
 t117:=underlying423
 a117:=isAgg423
 z117:=sizeOf423
 v117:=zeroValue423
 t124:=underlying426
 a124:=isAgg426
 z124:=sizeOf426
 v124:=zeroValue426 }
open Go.RowKit Go.Lib in
theorem strings_IndexAny_long(d:∀w,(zeroValue 422).run prog w=.ok (.agg (Array.replicate 256 (.bool false))) w)(s a:ByteArray)(w:Wo)(g:2<=a.size)(h:8<s.size)(i:s.size<4294967281)(f:a.size<4294967281)(c:∀(j:Nat) b,a.data.toList[j]?=some b->b.toNat<128):
  Calls prog 395 #[.string s,.string a] w λe w'=>e=.returned (.int .i64 (Lib.indexAny s.data.toList a.data.toList))/\w'=((w.alloc (.cells (Lib.setCells a.data.toList) 422)).alloc (.cells (Lib.setCells a.data.toList) 422)):=Any.strings_IndexAny_long eO d (by kernel_rfl) s a w g h i f c
def Tryz.Hb:Go.Shelf.Ren:=⟨λ|16=>189|n=>n,λ|24=>34|9=>9|4=>4|n=>n,λ|n=>n⟩
theorem Tryz.E1:Go.Proofs.Lays2.n16 prog Hb:={
 mixed:=by kernel_rfl
 f16:=func189.trans (Ye some kr)
 t4:=KP
 a4:=IH
 z4:=DT
 v4:=QC
 t9:=Bb
 a9:=Bq
 z9:=A3
 v9:=KQ
 t24:=ET
 a24:=Ji
 z24:=G2
 v24:=cJ
 i9:=by kernel_rfl }
open Go.RowKit Go.Lib in
theorem slices_Clone_string(b off n c:Nat)(zs:List ByteArray)(w:Wo)(g:n<=zs.length)(a:n*16<=140737488355328)(f:∀j,j<zs.length->w.cell? ⟨b,off+j,none⟩=some (.string (zs.getD j ByteArray.empty))):
  Calls prog 189 #[.slice (some ⟨b,off,none⟩) n c] w λe w'=>∃d,e=.returned d/\w'.ownsRow w.heap.size 9 1 d n ((zs.take n).map (Value.string))/\d≠.slice none 0 0/\Below w.heap.size w w':=Any.slices_Clone_string E1 b off n c zs w g a f
open Go.RowKit Go.Lib in
theorem slices_Clone_string_nil(n c:Nat)(w:Wo):
  Calls prog 189 #[.slice none n c] w λe w'=>e=.returned (.slice none 0 0)/\w'=w:=Any.slices_Clone_string_nil E1 n c w
open Go.RowKit Go.Lib in
theorem slices_Clone_string_zero(a:Addr)(c:Nat)(w:Wo):
  Calls prog 189 #[.slice (some a) 0 c] w λe w'=>∃b,e=.returned b/\w'.ownsRow w.heap.size 9 1 b 0 []/\b≠.slice none 0 0/\Below w.heap.size w w':=Any.slices_Clone_string_zero E1 a c w
end Go.Proofs
namespace Go.Proofs.W9
open Gk Pc Ul
open Tryz
theorem vR(s:Lu)(c:Ui)(w:Wo):Calls prog 95 #[S s,U8 c.toNat] w (AY λv w'=>v=Ab (Go.Lib.indexByte s c)/\w=w') :=
 (strings_IndexByte ⟨s.toArray⟩ c.toNat w).mono λe w' a=>by
  obtain⟨rfl,rfl⟩:=a;refine⟨_,O,?_,O⟩
  congr 2
  simp
theorem fk(s:Lu)(w:Wo):
  Cz 396 [S s] w λv w'=>v=Ab (KB s:Nat)/\w=w':=by
 refine gN 3 ?_ ?_<;>intro a
 ·exact gG 1 ⟨by rw[KB,Y7 (show s=QX from a)];rfl,O⟩
 exact gG 1 ⟨by rw[KB,Y3 (show ¬ s=QX from a)];rfl,O⟩
theorem Xpl(s:Lu)(t:s.length<=1000000)(N:La)(a:Aa B w I N):
  Ce B I N 334 [S s] w (S (low s)):=by
 refine gH 2 (.ZX a (.of O) Bb BC BW O ?_);intro r d o w a;refine gG 4 ?_;refine .lk [3,8,9] (σ:=Nat) (λi _m=>(10,Ab (i:Nat))::_m) (λi w=>i<=s.length/\Aa B w I (Rj r (Aj (K_ s i)++List.replicate o (Value.int .u8 0)) 5::N)) (λi=>s.length-i) 0 ⟨Y5 _,by rw[mid_zero];exact a⟩ ?_;rintro i w ⟨hi,a⟩;refine gM 1 ?_ ?_<;>intro h m
 ·have f:(Aj (K_ s i)).length=s.length:=by rw[Ym,Py]
  have g:(Aj (K_ s i)++List.replicate o (Value.int .u8 0))[i]?=some (U8 (at_ s i).toNat):=by
   rw[Yf om,Yu,YE s i om];rfl
  refine gH 2 ?_;refine .val (.ldM (.of O) a (k:=0) O EA (by rw[Yl];(try rw[Yh]);rw[Ca];exact g)) O ?_;refine gM 8 ?_ ?_<;>intro b n
  ·refine gH 6 (.Aal a (k:=0) O (.of O) (.of O) O Cw (by rw[Y0,f,oP];omega) ?_);intro w a;refine gG 2 (⟨i+1,⟨O,O,O,O,trivial⟩,⟨om,?_⟩,om⟩);have e:=Xwp s i om;simp only[Yl,Yh,Ca]at a
   rw[u2 _ _ om,show Value.int .u8 (IntKind.u8.wrap ((IntKind.u8.wrap (((at_ s (i:Int)).toNat:Int)+97))-65))=U8 (lo (at_ s (i:Int))).toNat by
    have:=rC (c:=at_ s (i:Int)) (by simpa only [Yb,decide_eq_true_eq]using b)
    rw[this,IntKind.wrap_u8,IntKind.wrap_u8];congr 1;omega,<-vo,e]at a
   exact a
  refine gG 2 (rd (i+1) ⟨om,?_⟩);rw[<-YF s i om (rB (λp=>by
   have:(decide (65<=((at_ s (i:Int)).toNat:Int))&&decide (((at_ s (i:Int)).toNat:Int)<=90))=true:=by simp only[Yb,decide_eq_true_eq];exact p
   rw[this]at b;cases b))]
  exact a
 refine gH 1 ?_;refine .val (.Rl (l:=low s) (cap:=d) (.of (by rw[gY];rfl)) a (k:=0) O BC BW Bb (λj q=>by
  rw[gY]at q;rw[Yl,Yf (by rw[Ym,Py];omega),Yu,mid_end s i om,Y2 (by rw[gY];omega)];rfl)) O ?_
 exact gG 1 ⟨O,a.s⟩
theorem XA(s:Lu)(w:Wo):
  Cz 336 [S s] w λv w'=>v=.bool (TL s)/\w=w':=by
 obtain⟨w0,f⟩:∃w0,w=w0:=⟨_,O⟩
 rw[show(λ(v:Va) (w':Wo)=>v=.bool (TL s)/\w=w')=(λv w'=>v=.bool (TL s)/\w0=w')by rw[f]];refine gM 8 ?_ ?_<;>intro d n
 ·refine gG 1 (⟨?_,f.symm⟩)
  congr 1
  rw[TL];rcases u3.1 d with h|h
  ·rw[show s=[]by simpa using h];rfl
  ·simp only[decide_eq_true_eq]at h
   rw[show decide (64<s.length)=true from decide_eq_true om];simp
 refine gG 3 (.lk [0,13] (σ:=Nat) (λi _m=>(14,Ab (i:Nat))::_m) (λi w=>i<=s.length/\(∀j,j<i->j<s.length->Kd (at_ s (j:Int))=true)/\w=w0) (λi=>s.length-i) 0 ⟨Y5 _,λ_ h=>Aw h om,f⟩ ?_);rintro i w ⟨hi,g,m⟩;refine gN 1 ?_ ?_<;>intro o
 ·refine gC 7 (nw _ _) ?_;rintro _ _ ⟨rfl,rfl⟩;refine gM 9 ?_ ?_<;>intro c q
  ·refine gG 1 (⟨?_,m.symm⟩);rw[Xpa]at c;rw[TL,p_ (p:=Kd) (i:=i) om (su c),b_]
  refine gG 2 (rd (i+1) ⟨om,λj t l=>?_,m⟩);rcases Yz j i with k|k
  ·exact g j k l
  ·have e:j=i:=om
   subst e;rw[Xpa]at c;simpa using c
 refine gG 1 (⟨?_,m.symm⟩);rw[TL,n4 g om,Bool.and_true];obtain⟨k,r⟩:=(G3).1 d;rw[show decide (64<s.length)=false from decide_eq_false (by simp only[decide_eq_false_iff_not]at r;omega),show s.isEmpty=false by cases s with|nil=>simp at k|cons a b=>rfl];rfl
theorem Nj(s:Lu)(u:s.length<=1000000)(w:Wo):
  Cz 397 [S s] w λv w'=>v=.bool (s.all QQ)/\w=w':=by
 obtain⟨w0,l⟩:∃w0,w=w0:=⟨_,O⟩
 rw[show(λ(v:Va) (w':Wo)=>v=.bool (s.all QQ)/\w=w')=(λv w'=>v=.bool (s.all QQ)/\w0=w')by rw[l]];refine gG 4 (.lk [0,6] (σ:=Nat) (λi _m=>(7,Ab (i:Nat))::_m) (λi w=>i<=s.length/\(∀j,j<i->j<s.length->QQ (at_ s (j:Int))=true)/\w=w0) (λi=>s.length-i) 0 ⟨Y5 _,λ_ h=>Aw h om,l⟩ ?_);rintro i w ⟨hi,k,f⟩;refine gN 1 ?_ ?_<;>intro q
 ·refine gH 14 ?_;refine .AA (T:=λw=>w=w0) O O O Ll O (λg=>(AM O (X4 (.gd g O) X3))) O (λg=>(vR sj (at_ s (i:Int)) _).mono (λe x r=>by obtain⟨v,a,b,c⟩:=r;exact⟨v,a,b,by rw[<-c];exact f⟩)) f ?_;rintro w f;refine gM 2 ?_ ?_<;>intro d o
  ·refine gG 1 (⟨?_,f.symm⟩);rw[Xjr]at d;rw[p_ (p:=QQ) (i:=i) om (su d)]
  refine gG 2 (rd (i+1) ⟨om,λj t m=>?_,f⟩);rcases Yz j i with n|n
  ·exact k j n m
  ·have e:j=i:=om
   subst e;rw[Xjr]at d;simpa using d
 refine gG 1 (⟨?_,f.symm⟩);rw[n4 k om]
theorem Tw(s:Lu)(i:Nat)(e:i<=4)(h:∀j,j<i->j<s.length->K3 (at_ s (j:Int))=true):val (s.take i)<=9999:=by
 have step:∀k,k<=i->val (s.take k)+1<=10^k:=by
  intro k
  induction k with
  | zero=>intro _;simp[val]
  | succ k f =>
   intro m
   have:=f om
   rcases Yz k s.length with a|a
   ·rw[p6 s k a,LX];have b:=h k om a;simp only[K3,Yb,decide_eq_true_eq,Vz]at b
    have c:(48:Ui).toNat=48:=rfl;have d:(57:Ui).toNat=57:=rfl;rw[c,d]at b;omega
   ·rw[show s.take (k+1)=s.take k by rw[Yk om,Yk om],LX];omega
 have g:=step i (Y9 _);have l:10^i<=10^4:=VA de e;omega
theorem Zf(s o:Lu)(X:s.length<=1000000)(w:Wo):
  Cz 337 [S s,S o] w λv w'=>v=(if Gz s then Value.tuple #[Ab (Q0 s o:Nat),.bool true]else .tuple #[Ab 0,.bool false])/\w=w':=by
 obtain⟨w0,B⟩:∃w0,w=w0:=⟨_,O⟩
 rw[show(λ(v:Va) (w':Wo)=>v=(if Gz s then Value.tuple #[Ab (Q0 s o:Nat),.bool true]else .tuple #[Ab 0,.bool false])/\w=w')=(λv w'=>v=(if Gz s then Value.tuple #[Ab (Q0 s o:Nat),.bool true]else .tuple #[Ab 0,.bool false])/\w0=w')by rw[B]];refine gG 6 (.lk [0,1,10] (σ:=Nat) (λi _m=>(6,Ab (val (s.take i):Nat))::(11,Ab (i:Nat))::_m) (λi w=>i<=s.length/\i<=5/\(∀j,j<i->j<s.length->K3 (at_ s (j:Int))=true)/\(0<i->at_ s 0≠48)/\w=w0) (λi=>s.length-i) 0 ⟨Y5 _,de,λ_ h=>Aw h om,λh=>Aw h om,B⟩ ?_);rintro i w ⟨hi,Q,n,C,D⟩;refine gN 1 ?_ ?_<;>intro A
 ·refine gH 14 ?_;refine gM 10 ?_ ?_<;>intro r H
  ·refine gG 2 ?_;have l:Gz s=false:=by
    have h:=r;rcases u3.1 h with h|h
    ·rcases u3.1 h with h|h
     ·rw[Xvd]at h;unfold Gz;rw[p_ (p:=K3) (i:=i) om (su h)];rfl
     ·simp only[Yb,beq_iff_eq]at h
      have e0:i=0:=om
      subst e0;unfold Gz
      have:s.headD 0=48:=by
       have z:(at_ s ((0:Nat):Int)).toNat=48:=om
       have M:at_ s ((0:Nat):Int)=48:=GL.1 z;cases s with
       | nil=>simp at A
       | cons a b=>exact M
      rw[this]
      simp
    ·simp only[decide_eq_true_eq]at h
     have EL:=n 0 om om;unfold Gz;rw[decide_eq_false (show ¬ val s<=65535 from λV=>by have:=gj s om EL (C om);omega)]
     simp
   refine⟨?_,D.symm⟩;rw[Y3 (by rw[qO];exact l)]
  have x:¬ (((decide (((at_ s (i:Int)).toNat:Int)<48)||decide (57<((at_ s (i:Int)).toNat:Int)))||((i:Int)==0)&&(((at_ s (i:Int)).toNat:Int)==48))||decide (4<(i:Int)))=true:=by rw[r];decide
  have u:K3 (at_ s (i:Int))=true:=by
   cases P:K3 (at_ s (i:Int))with
   | true=>rfl
   | false=>exact Aw (by rw[Xvd,P];rfl) x
  have T:48<=(at_ s (i:Int)).toNat/\(at_ s (i:Int)).toNat<=57:=by
   have:=u
   simp only[K3,Yb,decide_eq_true_eq,Vz]at this
   have K:(48:Ui).toNat=48:=rfl;have L:(57:Ui).toNat=57:=rfl;rw[K,L]at this;exact this
  have F:i<=4:=by
   rcases Yz 4 i with h|h
   ·exact Aw (by rw[decide_eq_true (show 4<(i:Int)by omega),Bool.or_true]) x
   ·exact h
  have E:i=0->(at_ s (i:Int)).toNat≠48:=λe h=>Aw (by
   rw[show((i:Int)==0)=true by simp[e],show(((at_ s (i:Int)).toNat:Int)==48)=true by simp[h]];simp) x
  have U:=Tw s i F n;refine gH 3 (.val (.ZY (.of O) (.of O) (by rw[IntKind.wrap_u8];omega)) O (gG 5 (⟨i+1,⟨?_,O,O,O,O,trivial⟩,⟨om,om,λj W G=>?_,λ_=>?_,D⟩,om⟩)))
  ·rw[p6 s i om];show some _=some _
   congr 3
   omega
  ·rcases Yz j i with q|q
   ·exact n j q G
   ·have e:j=i:=om
    rw[e];exact u
  ·rcases JP i with e|e
   ·subst e;intro h;exact E O (by show(at_ s ((0:Nat):Int)).toNat=48;rw[show((0:Nat):Int)=0 from O,h];rfl)
   ·exact C e
 refine gM 6 ?_ ?_<;>intro k I
 ·refine gG 2 ?_;have c:s.length=i:=om
  rw[<-c,GK]at k;have l:Gz s=false:=by
   unfold Gz;rcases u3.1 k with h|h
   ·simp only[decide_eq_true_eq]at h
    rw[decide_eq_false (show ¬ 1<=val s by omega)];simp
   ·simp only[decide_eq_true_eq]at h
    rw[decide_eq_false (show ¬ val s<=65535 by omega)];simp
  refine⟨?_,D.symm⟩;rw[Y3 (by rw[qO];exact l)]
 refine gC 2 (fk o _) ?_;rintro _ w ⟨rfl,y⟩;rw[D]at y;refine gM 1 ?_ ?_<;>intro t J
 ·refine gG 4 ?_;have c:s.length=i:=om
  have d:=k;rw[<-c,GK]at d;have g:Gz s=true:=by
   unfold Gz;obtain⟨q,z⟩:=G3.1 d;simp only[decide_eq_false_iff_not]at q z
   have m:s≠[]:=λe=>by rw[e]at q;simp[val]at q
   have R:0<s.length:=LU.2 m;rw[n4 n om,decide_eq_true (show 1<=val s by omega),decide_eq_true (show val s<=65535 by omega)]
   have:=C om
   have e:s.headD 0=at_ s 0:=by cases s with|nil=>exact Aw rfl m|cons a b=>rfl
   rw[e];simp[this]
  refine⟨?_,y⟩;rw[Y7 g,Q0];have f:=t;rw[<-c,GK]at f;rw[Y7 (by simp only[beq_iff_eq]at f;omega)];rfl
 refine gG 3 ?_;have c:s.length=i:=om
 have d:=k;rw[<-c,GK]at d;have g:Gz s=true:=by
  unfold Gz;obtain⟨q,z⟩:=G3.1 d;simp only[decide_eq_false_iff_not]at q z
  have m:s≠[]:=λe=>by rw[e]at q;simp[val]at q
  have R:0<s.length:=LU.2 m;rw[n4 n om,decide_eq_true (show 1<=val s by omega),decide_eq_true (show val s<=65535 by omega)]
  have:=C om
  have e:s.headD 0=at_ s 0:=by cases s with|nil=>exact Aw rfl m|cons a b=>rfl
  rw[e];simp[this]
 refine⟨?_,y⟩;rw[Y7 g,Q0];have f:=t;rw[<-c,GK]at f;rw[Y3 (by simp only[beq_eq_false_iff_ne]at f;omega),<-c,GK]
end Go.Proofs.W9
namespace Ul
open Pc Gk
def F_(s:Lu):Option Lu:=if s.all QQ then DN s else none
def AO:List UInt8->List (List UInt8)
 | []=>[[]]
 | c::r=>if c=47 then[]::AO r else match AO r with
  | []=>[[c]]
  | h::t=>(c::h)::t
theorem Na(s:Lu):AO s≠[]:=by
 cases s with
 | nil=>simp[AO]
 | cons c r =>
  simp only[AO]
  split
  ·simp
  ·split<;>simp
theorem p5:∀(s:Lu),(∀x∈s,x≠47)->AO s=[s]
 | [],_=>rfl
 | c::r,h=>by
  rw[AO,Y3 (h c sz),p5 r (λx hx=>h x (by simp[hx]))]
theorem uz:∀(a b:Lu),(∀x∈a,x≠47)->AO (a++47::b)=a::AO b
 | [],b,_=>by show AO (47::b)=_;rw[AO,Y7 O]
 | c::r,b,h=>by
  show AO (c::(r++47::b))=_
  rw[AO,Y3 (h c sz),uz r b (λx hx=>h x (by simp[hx]))]
theorem Xxs{s:Lu}(h:s[i]?=some 47)(c:∀k,k<i->s[k]?≠some 47):AO s=s.take i::AO (s.drop (i+1)):=by
 have hi:i<s.length:=(Y1.1 h).1;have e:s=s.take i++47::s.drop (i+1):=by
  conv=>lhs;rw[<-FA i s]
  rw[Yq hi,(Y1.1 h).2]
 conv=>lhs;rw[e]
 refine uz _ _ λx hx d=>?_
 obtain⟨k,a⟩:=GH.1 hx;rw[Q_]at a;split at a
 ·rename_i b
  exact c k b (by rw[a,d])
 ·cases a
theorem Ng:∀(n:Nat) (s:Lu),s.length<=n->Go.Lib.splitK [47] 0 (Go.Lib.count s [47]) s=AO s:=by
 intro n
 induction n with
 | zero =>
  intro s h
  have:s=[]:=Yc om
  subst this;rfl
 | succ n g =>
  intro s h;have f:=Go.Lib.indexByte_ge s 47
  by_cases e:Go.Lib.indexByte s 47=-1
  ·have hi:Go.Lib.index s [47]=-1:=by rw[Go.Lib.index_one];exact e
   rw[Go.Lib.count_miss hi];refine(p5 s λx hx b=>?_).symm;obtain⟨k,a⟩:=GH.1 hx;exact Go.Lib.indexByte_none e k (by rw[a,b])
  ·obtain⟨i,a⟩:∃k:Nat,Go.Lib.indexByte s 47=k:=⟨(Go.Lib.indexByte s 47).toNat,om⟩
   have hi:Go.Lib.index s [47]=i:=by rw[Go.Lib.index_one];exact a
   obtain⟨c,d⟩:=Go.Lib.indexByte_some a;rw[Go.Lib.count_hit sz hi,LW 1,Go.Lib.splitK,hi,Y3 sz,Xxs c d];show s.take ((i:Int).toNat+0)::Go.Lib.splitK [47] 0 (Go.Lib.count (s.drop (i+1)) [47]) (s.drop ((i:Int).toNat+1))=_
   rw[Yh,DG,g (s.drop (i+1)) (by rw[Y6];omega)]
theorem fT:∀(n:Nat) (s:Lu),s.length<=n->(AO s).length=Go.Lib.count s [47]+1:=by
 intro n
 induction n with
 | zero =>
  intro s h
  have:s=[]:=Yc om
  subst this;rfl
 | succ n g =>
  intro s h;have f:=Go.Lib.indexByte_ge s 47
  by_cases e:Go.Lib.indexByte s 47=-1
  ·have hi:Go.Lib.index s [47]=-1:=by rw[Go.Lib.index_one];exact e
   rw[Go.Lib.count_miss hi,p5 s λx hx b=>?_]
   ·rfl
   ·obtain⟨k,a⟩:=GH.1 hx;exact Go.Lib.indexByte_none e k (by rw[a,b])
  ·obtain⟨i,a⟩:∃k:Nat,Go.Lib.indexByte s 47=k:=⟨(Go.Lib.indexByte s 47).toNat,om⟩
   have hi:Go.Lib.index s [47]=i:=by rw[Go.Lib.index_one];exact a
   obtain⟨c,d⟩:=Go.Lib.indexByte_some a;rw[Go.Lib.count_hit sz hi,Xxs c d,Y4,g (s.drop (i+1)) (by rw[Y6];omega)];show _=1+Go.Lib.count (s.drop (i+1)) [47]+1
   omega
def BJ(k:List Lu)(x:Lu):List Lu:=if x=[46]then k else if x=[46,46]then k.dropLast else k++[x]
def Xw(k:List Lu):Lu:=(k.map (47::·)).flatten
def G1(x:Lu):Bool:=x==[46]||x==[46,46]
def Dc:List UInt8->List UInt8
 | []=>[]
 | c::r=>if c=47 then Xw ((AO r).foldl BJ [])++(if G1 ((AO r).getLastD [])||((AO r).foldl BJ []).length==0 then[47]else[])else c::r
theorem Wq(p:Lu):(Dc p==[])=(p==[]):=by
 cases p with
 | nil=>rfl
 | cons c r =>
  rw[show((c::r:Lu)==[])=false from O];rw[Dc];split
  ·cases d:(AO r).foldl BJ []with
   | nil=>simp[Xw]
   | cons a b=>simp[Xw]
  ·rfl
theorem wi(k:List Lu)(x:Lu):Xw (k++[x])=Xw k++47::x:=by simp[Xw]
def CZ(k:List Lu):Nat:=(k.map (λx=>x.length+1)).sum
theorem wj(k:List Lu):(Xw k).length=CZ k:=by
 induction k with
 | nil=>rfl
 | cons a b c =>
  rw[CZ,Yw,VF,Xw,Yw,Gg,Y0,Y4];show _+(Xw b).length=_
  rw[c];rfl
theorem qg:∀(s:Lu),CZ (AO s)=s.length+1
 | []=>rfl
 | c::r=>by
  have a:=qg r;simp only[AO]
  split
  ·simp only[CZ,Yw,VF]at a ⊢
   simp only[Yi,Y4]
   omega
  ·split
   ·rename_i h;exact Aw h (Na r)
   ·rename_i h
    rw[h]at a;simp only[CZ,Yw,VF,Y4]at a ⊢
    omega
theorem um(k:List Lu):k.length<=CZ k:=by
 induction k with
 | nil=>exact Y9 _
 | cons a b c =>
  simp only[CZ,Yw,VF,Y4]at c ⊢
  omega
theorem uC(a b:List Lu):CZ (a++b)=CZ a+CZ b:=by simp[CZ]
theorem aH(k:List Lu)(x:Lu):CZ (BJ k x)<=CZ k+(x.length+1):=by
 unfold BJ;split
 ·omega
 ·split
  ·rcases List.eq_nil_or_concat k with e|⟨a,b,e⟩
   ·subst e;simp[CZ]
   ·subst e;rw[List.concat_eq_append,List.dropLast_concat,uC];omega
  ·rw[uC];simp[CZ]
theorem yr(l:List Lu):∀k,CZ (l.foldl BJ k)<=CZ k+CZ l:=by
 induction l with
 | nil=>intro k;simp[CZ]
 | cons a b c =>
  intro k;have d:=c (BJ k a);have e:=aH k a;rw[JS]
  have:CZ (a::b)=a.length+1+CZ b:=by simp[CZ]
  omega
def gV(s:Lu):Option (Lu×Lu) :=
 if low (s.take 7)=[104,116,116,112,58,47,47]then some (E0,s.drop 7)
 else if low (s.take 8)=[104,116,116,112,115,58,47,47]then some (QX,s.drop 8)else none
structure U where
 S8:Lu
 host:Lu
 port:Nat
 path:Lu
 query:Lu
 ask:Bool
def U0:U:=⟨[],[],0,[],[],false⟩
abbrev uc(u:U):List Go.Value:=[S u.S8,S u.host,Ab (u.port:Nat),S u.path,S u.query,.bool u.ask]
def IP(c a:List UInt8)(b:Nat)(r:List UInt8):U×Nat :=
 match F_ (BD [63] r)with
 | none=>(U0,15)
 | some p=>match F_ ((Xu [63] r).drop 1)with
  | none=>(U0,15)
  | some q=>(⟨c,a,b,if p=[]then[47]else Dc p,q,!(Xu [63] r).isEmpty⟩,0)
def Oe(r:Lu):Lu:=low (BD [47,63,35,58] r)
def hY(b a:Lu)(r:Lu):U×Nat :=
 if r.take 1=[58]then
  if Gz (BD [47,63,35] (r.drop 1))then IP b a (Q0 (BD [47,63,35] (r.drop 1)) b) (Xu [47,63,35] (r.drop 1))else(U0,14)
 else IP b a 0 r
def pU(s:List UInt8):U×Nat :=
 if 2000<s.length then(U0,2)else match gV s with
 | none=>(U0,12)
 | some (a,r)=>if TL (Oe r)then hY a (Oe r) (Xu [47,63,35,58] r)else(U0,13)
def jQ(u:U):Lu:=u.S8++[58,47,47]++u.host++(if u.port=0 then[]else 58::Go.Lib.decDigits u.port)
def Hi(u:U):Lu:=jQ u++u.path++(if u.ask then 63::u.query else[])
def nU(s:Lu):Lu×Nat:=if(pU s).2=0 then(Hi (pU s).1,0)else([],(pU s).2)
theorem yO{c:Ui}(h:lo c=58\/lo c=47):c=lo c:=by
 have:=Xj (p:=λc=>!(lo c==58||lo c==47)||c==lo c) dk c
 simp only[I0,iN,G3,beq_eq_false_iff_ne,beq_iff_eq]at this
 rcases this with a|a
 ·rcases h with h|h
  ·exact Aw h a.1
  ·exact Aw h a.2
 ·exact a
theorem XT(s:Lu)(k:Nat):low (s.drop k)=(low s).drop k:=by simp[low]
theorem XX(s:Lu)(k:Nat):low (s.take k)=(low s).take k:=by simp[low]
theorem XW:∀(s:Lu),low s=[58,47,47]->s=[58,47,47]
 | [],h=>by simp[low]at h
 | [_],h=>by simp[low]at h
 | [_,_],h=>by simp[low]at h
 | [a,b,c],h=>by
  simp only[low,Yw,EK,List.cons.injEq,and_true]at h
  obtain⟨d,e,f⟩:=h;rw[yO (.inl d),d,yO (.inr e),e,yO (.inr f),f]
 | _::_::_::_::_,h=>by simp[low]at h
abbrev B0:Lu:=[58,47,47]
theorem mm{s:Lu}(h:(s.drop i).take 3=B0):Go.Lib.occAt s B0 i=true:=by
 unfold Go.Lib.occAt;rw[qH];rw[<-h];exact List.take_prefix _ _
theorem YR{s:Lu}(h:Go.Lib.occAt s B0 i=true):(s.drop i).take 3=B0:=by
 unfold Go.Lib.occAt at h;rw[qH]at h;obtain⟨t,e⟩:=h;rw[<-e];rfl
theorem PT{s:Lu}{h:Lu}(n:h.length=k)(c:low (s.take (k+3))=h++B0)(i:h.all (· !=58)=true):Go.Lib.index s B0=k/\low (s.take k)=h:=by
 have b:low (s.take k)=h:=by
  have:=Ye (List.take k) c
  rw[<-XX,zI,JT om,oN om,Yk (l:=h) om]at this;exact this
 have d:(s.drop k).take 3=B0:=by
  apply XW
  have:=Ye (List.drop k) c
  rw[<-XT,List.drop_take,show k+3-k=3 by omega,oM om,Yo (l:=h) om]at this;exact this
 have a:k<=s.length:=by
  have:=Ye List.length b
  rw[gY,Yj,n]at this;omega
 refine⟨Go.Lib.index_first a (mm d) (λj m=>?_),b⟩;cases o:Go.Lib.occAt s B0 j with
 | false=>rfl
 | true =>
  have f:=YR o;have e:s[j]?=some 58:=by
   have:=Ye (λl=>l[0]?) f
   simpa[Q_,GI]using this
  have g:h[j]?=some 58:=by
   rw[<-b,low,Yu,Q_,Y7 m,e];rfl
  have:=Dy.1 i 58 (Y8 g)
  simp at this
theorem M9(s:Lu):gV s=(let c:=Go.Lib.cut s B0;if c.2.2=true/\(low c.1=E0\/low c.1=QX)then some (low c.1,c.2.1)else none):=by
 have a:∀(h:Lu) (k:Nat),h.length=k->Go.Lib.index s B0=(k:Nat)->low (s.take k)=h->low (s.take (k+3))=h++B0:=by
  intro h k g hi e;have b:Go.Lib.occAt s B0 k=true:=by
   rcases Go.Lib.index_spec s B0 with⟨l,_⟩|⟨j,l,_,m,_⟩
   ·omega
   ·have:j=k:=om
    subst this;exact m
  have n:=YR b;rw[List.take_add,low,Yn,n];show low (s.take k)++_=_
  rw[e];rfl
 simp only[gV]
 split
 ·rename_i h
  obtain⟨hi,e⟩:=PT (k:=4) (h:=E0) O h de;have f:Go.Lib.cut s B0=(s.take 4,s.drop 7,true):=by
   unfold Go.Lib.cut;rw[hi,Y7 de];rfl
  rw[f];simp only
  rw[Y7 ⟨trivial,.inl e⟩,e]
 ·rename_i p
  split
  ·rename_i h
   obtain⟨hi,e⟩:=PT (k:=5) (h:=QX) O h de;have f:Go.Lib.cut s B0=(s.take 5,s.drop 8,true):=by
    unfold Go.Lib.cut;rw[hi,Y7 de];rfl
   rw[f];simp only
   rw[Y7 ⟨trivial,.inr e⟩,e]
  ·rename_i i
   refine(Y3 ?_).symm;rintro⟨f,b⟩;unfold Go.Lib.cut at f b;split at f
   ·rename_i hi
    rw[Y7 hi]at b;obtain⟨k,g⟩:∃k:Nat,Go.Lib.index s B0=k:=⟨(Go.Lib.index s B0).toNat,om⟩
    rw[g,Yh]at b;simp only at b
    have o:k<=s.length:=by
     have:=Go.Lib.index_le s B0
     omega
    have d:(low (s.take k)).length=k:=by rw[gY,Yj];omega
    rcases b with b|b
    ·have q:k=4:=by rw[<-d,b];rfl
     subst q;exact p (a E0 4 O g b)
    ·have r:k=5:=by rw[<-d,b];rfl
     subst r;exact i (a QX 5 O g b)
   ·cases f
theorem OV(s:Lu)(c:Ui):Go.Lib.cut s [c]=(BD [c] s,(Xu [c] s).drop 1,!(Xu [c] s).isEmpty):=by
 have g:=Go.Lib.indexByte_ge s c;have key:Go.Lib.indexAny s [c]=Go.Lib.indexByte s c:=by
  clear g
  induction s with
  | nil=>rfl
  | cons b l m =>
   rw[Go.Lib.indexAny,Go.Lib.indexByte,m]
   have:([c].contains b)=(b==c):=by rw[zt];simp
   rw[this]
 unfold Go.Lib.cut;rw[Go.Lib.index_one]
 by_cases e:Go.Lib.indexByte s c=-1
 ·rw[e,Y3 de];obtain⟨d,f⟩:=xT (BF:=[c]) (by rw[key];exact e);rw[d,f];rfl
 ·obtain⟨k,h⟩:∃k:Nat,Go.Lib.indexByte s c=k:=⟨(Go.Lib.indexByte s c).toNat,om⟩
  obtain⟨d,f,n⟩:=yH (BF:=[c]) (i:=k) (by rw[key];exact h);rw[h,Y7 om,d,f,Yh,JU]
  have:(s.drop k).isEmpty=false:=by
   cases j:s.drop k with
   | nil =>
    have:=Ye List.length j
    rw[Y6,Yi]at this;omega
   | cons a b=>rfl
  rw[this];rfl
theorem Xvg(p:Lu):(Dc p).length<=p.length+1:=by
 cases p with
 | nil=>simp[Dc]
 | cons c r =>
  rw[Dc];split
  ·have a:=yr (AO r) [];rw[qg,show CZ []=0 from O]at a;rw[Y0,wj,Y4]
   have:(if(G1 ((AO r).getLastD [])||((AO r).foldl BJ []).length==0)=true then[47]else([]:Lu)).length<=1:=by split<;>simp
   omega
  ·simp
theorem qh(a s:Lu):(BD a s).length<=s.length:=by
 have:=Ye List.length (gO a s)
 rw[Y0]at this;omega
theorem bD(a s:Lu):(Xu a s).length<=s.length:=by
 have:=Ye List.length (gO a s)
 rw[Y0]at this;omega
theorem uv{s t:Lu}(h:F_ s=some t):t.length<=s.length:=by
 unfold F_ at h;split at h
 ·exact Xwu s t h
 ·cases h
def QN(u:U):Prop:=u.S8.length<=1000000/\u.host.length<=1000000/\u.port<=65535/\u.path.length<=10000000/\u.query.length<=10000000
theorem oi:QN U0:=⟨de,de,de,de,de⟩
theorem Xjq(c a:Lu)(b:Nat)(r:Lu)(e:c.length<=1000000)(f:a.length<=1000000)(g:b<=65535)(n:r.length<=100000):QN (IP c a b r).1:=by
 unfold IP;split
 ·exact oi
 ·rename_i p h
  split
  ·exact oi
  ·rename_i q i
   have j:=uv h;have d:=uv i;have k:=qh [63] r;have l:=bD [63] r;have m:=Xvg p;rw[Y6]at d;refine⟨e,f,g,?_,by show q.length<=_;omega⟩;show(if p=[]then[47]else Dc p).length<=_
   split
   ·simp
   ·omega
theorem PI{s b:Lu}(a:Gz s=true):Q0 s b<=65535:=by
 unfold Q0;split
 ·decide
 ·unfold Gz at a;simp only[Yb,decide_eq_true_eq]at a
  exact a.2
theorem p4(s:Lu):QN (pU s).1:=by
 unfold pU;split
 ·exact oi
 ·split
  ·exact oi
  ·rename_i d r a
   split
   ·have h:r.length<=2000/\d.length<=5:=by
     unfold gV at a;split at a
     ·injection a with a;injection a with b c;subst b;subst c;rw[Y6];exact⟨om,de⟩
     ·split at a
      ·injection a with a;injection a with b c;subst b;subst c;rw[Y6];exact⟨om,de⟩
      ·cases a
    have e:(Oe r).length<=1000000:=by unfold Oe;rw[gY];have:=qh [47,63,35,58] r;omega
    have g:=bD [47,63,35,58] r;unfold hY;split
    ·split
     ·rename_i f
      refine Xjq _ _ _ _ om e (PI f) ?_
      have:=bD [47,63,35] ((Xu [47,63,35,58] r).drop 1)
      rw[Y6]at this;omega
     ·exact oi
    ·exact Xjq _ _ _ _ om e de om
   ·exact oi
theorem Xba(a s:Lu):(BD a s).length+(Xu a s).length=s.length:=by
 have:=Ye List.length (gO a s)
 rw[Y0]at this;omega
end Ul
namespace Go.Proofs.W9
open Gk Pc Ul
open Tryz
theorem Xyw(n:Int)(w:Wo):
  Cz 421 [Ab n] w λv w'=>v=.bool (decide (8<n))/\w=w':=by
 exact gG 4 ⟨O,O⟩
theorem Xkb(r:Int)(w:Wo):Calls prog 432 #[.int .i32 r] w (AY λv w'=>v=.bool (Go.Lib.validRune r)/\w=w') :=
 (utf8_ValidRune r w).mono λe w' a=>by
  obtain⟨rfl,rfl⟩:=a;exact⟨_,O,O,O⟩
theorem Xnh(cs:Lu)(d:gp cs)(L:cs.length<=1000)(r:Int)(D:128<=r)(H:r<=1114111)(N:La)(a:Aa B w I N):
  Ce B I N 413 [S cs,.int .i32 r] w (Ab (-1)):=by
 refine gU 8 (λm o=>?_);refine gN 3 ?_ ?_<;>intro p
 ·refine gH 1 (.range a (.of O) Bb O ?_);intro f w a;refine gG 0 (.lk [175] (σ:=Nat) (λi _m=>_m) (λi w=>i<=cs.length/\Aa B w I (own f (.stringIter ⟨cs.toArray⟩ i)::N)) (λi=>cs.length-i) 0 ⟨Y5 _,a⟩ ?_);rintro i w ⟨hi,a⟩;refine gG 0 (.next (i:=i) a (k:=0) O (.of O) O (λg=>?_) (λg=>?_))
  ·refine gG 1 (.Bt (rfl) ?_);exact gG 1 ⟨O,a.s⟩
  ·rw[w9 cs i g (d i _ (LA g))];have E:=d i _ (LA g);intro w a;refine gG 1 (.CU (rfl) (gU 6 (λn q=>?_)));exact gG 0 (Br (_) O ⟨om,a⟩)
 refine gC 1 (Xkb r _) ?_;rintro _ _ ⟨rfl,rfl⟩;refine gM 2 ?_ ?_<;>intro e t
 ·exact gG 1 ⟨O,a⟩
 have v:Go.Utf8.valid r=true:=aO r (su e);obtain⟨F,G,u⟩:=RQ r v D;refine gH 1 ?_;refine .val (.fM (.of O) (by rw[Lq];rfl) Bb) O ?_;refine gG 8 (.lk [0,7,8,9] (σ:=Unit) (λ_ _m=>_m) (λ_ w=>Aa B w I N) (λ_=>0) () a ?_);rintro _ w a;refine gN 4 ?_ ?_<;>intro z
 ·have J:(at_ cs ((((IW r).length:Nat):Int)-1)).toNat<128:=d ((((IW r).length:Nat):Int)-1).toNat _ (by rw[at_,Ya,Y2 om];rfl);refine gG 0 (gQ ?_);intro w a;refine gT 7 (λx A=>?_);refine gG 0 (.qt a (.val (λw a=>(.mo O)) O (.val (λw a=>(.mo O)) O (.val (λw a=>(.add (.of O) (.of O) ⟨om,om⟩)) O (.val (λw a=>(.PX (.of O) (.of O) om om Bb)) O (.val (λw a=>(.mo O)) O (.val (λw a=>(.mo O)) O (.val (λw a=>(.index (.of O) (.of O) om om Bb)) O (.call Ll O (AM O (AM O X3)) O (λw a=>QK (vR _ (at_ (IW r) ((((IW r).length:Nat):Int)-1)) w) a) (.val (λw a=>(.ao O)) O (.nil ?_)))))))))));intro w a;have K:=Xpc (l:=cs.drop ((((IW r).length:Nat):Int)-1+1).toNat) (c:=at_ (IW r) ((((IW r).length:Nat):Int)-1)) u (λj b h=>by rw[GI]at h;exact d _ _ h);refine gT 2 (λy C=>?_);exact gG 1 ⟨O,a⟩
 exact gG 1 ⟨O,a⟩
theorem Xk4(cs:Lu)(a:gp cs)(d:cs.length<=1000)(r:Nat)(f:r<=1114111)(N:La)(b:Aa B w I N):Calls prog 413 #[S cs,.int .i32 r] w (AY λv w'=>v=Ab (if r<128 then Go.Lib.indexByte cs (UInt8.ofNat r)else -1)/\Aa B w' I N):=by
 rcases Yz r 128 with h|h
 ·refine(strings_IndexRune_ascii ⟨cs.toArray⟩ r w om om).mono λe w' c=>?_
  obtain⟨rfl,rfl⟩:=c;refine⟨_,O,?_,b⟩;rw[Y7 h]
  simp
 ·rw[Y3 om];exact Xnh cs a d r om om N b
theorem Xng(s cs:Lu)(d:gp cs)(u:cs.length<=1000)(x:2<=cs.length)(y:s.length<=8)(n:(cs==[])=false)(N:La)(a:Aa B w I N):
  Ce B I N 395 [S s,S cs] w (Ab (Go.Lib.indexAny s cs)):=by
 refine gG 3 ?_;refine .Bt (by show some (Value.bool (cs==[]))=_;rw[n]) ?_;refine gU 3 (λo q=>?_);refine gC 2 (Xyw _ _) ?_;rintro _ _ ⟨rfl,rfl⟩;refine gU 0 (λp r=>?_);refine gH 1 (.range a (.of O) Bb O ?_);intro g w a;refine gG 0 (.lk [1,45] (σ:=Nat) (λi _m=>_m) (λi w=>i<=s.length/\Go.Lib.NoAny s cs i/\Aa B w I (own g (.stringIter ⟨s.toArray⟩ i)::N)) (λi=>s.length-i) 0 ⟨Y5 _,Go.Lib.NoAny.zero _ _,a⟩ ?_);rintro i w ⟨hi,e,a⟩;refine gG 0 (.next (i:=i) a (k:=0) O (.of O) O (λf=>?_) (λf=>?_))
 ·refine gG 1 (.Bt (rfl) ?_);exact gG 1 ⟨by rw[Go.Lib.indexAny_none (by rw[show s.length=i by omega];exact e)],a.s⟩
 ·intro w a;try dsimp only[List.set]at a
  refine gG 1 (.CU (rfl) ?_);have j:(Go.Utf8.decode ⟨s.toArray⟩ i).1<=1114111:=by
   rcases Yz (at_ s (i:Int)).toNat 128 with h|h
   ·rw[w9 s i f h];dsimp only;omega
   ·exact(Xoh s i f h).2.1
  obtain⟨c,b⟩:=VQ d f e;unfold rv at c b;refine gE 6 (Xk4 cs d u _ j) ?_;intro w a;refine gN 1 ?_ ?_<;>intro t
  ·refine gG 2 (⟨?_,a.s⟩);rw[c om]
   done
  refine gG 0 ?_;obtain⟨l,m,v⟩:=b om;exact Br _ O ⟨m,l,a⟩
theorem Xnf(s cs:Lu)(j:s.length<=1000000)(c:gp cs)(i:cs.length<=1000)(d:2<=cs.length)(N:La)(f:Aa B w I N):Calls prog 395 #[S s,S cs] w (AY λv w'=>v=Ab (Go.Lib.indexAny s cs)/\Aa B w' I N):=by
 rcases Yz 8 s.length with h|h
 ·refine(strings_IndexAny_long (zero_of_info (n:=256) kr).1 ⟨s.toArray⟩ ⟨cs.toArray⟩ w d h (by show s.length<_;omega) (by show cs.length<_;omega) c).mono λe w' g=>?_
  obtain⟨rfl,rfl⟩:=g;exact⟨_,O,O,(((f.alloc _).alloc _).drop (k:=0) O).drop (k:=0) O⟩
 ·exact Xng s cs c i d h (by cases cs with|nil=>simp at d|cons a b=>rfl) N f
theorem OU(s cs:Lu)(l:s.length<=1000000)(d:gp cs)(j:cs.length<=1000)(g:2<=cs.length)(N:La)(c:Aa B w I N):
  Ce B I N 335 [S s,S cs] w (.tuple #[S (BD cs s),S (Xu cs s)]):=by
 refine gP 4 [] (Xnf s cs l d j g N) ?_;rintro _ w ⟨rfl,c⟩;have i:=Go.Lib.indexAny_ge cs s;refine gN 3 ?_ ?_<;>intro e
 ·refine gG 0 ?_;obtain⟨k,f⟩:∃k:Nat,Go.Lib.indexAny s cs=k:=⟨(Go.Lib.indexAny s cs).toNat,om⟩
  obtain⟨a,b,h⟩:=yH f;rw[f];refine gQ ?_;intro w c;exact gG 8 ⟨by rw[a,b];(try rw[Yh]),c⟩
 refine gG 3 ?_;obtain⟨a,b⟩:=xT (s:=s) (BF:=cs) om;exact⟨by rw[a,b],c⟩
theorem SE(s:Lu)(g:s.length<=1000000)(d:Bw I)(N:La)(c:Aa B w I N):Calls prog 398 #[S s] w (AY λv w'=>∃b a,v=.tuple #[S b,Ab a]/\(match DN s with|none=>b=[]/\a=11|some t=>b=t/\a=0)/\Aa B w' I N) :=
 (Xtn s g d N c).mono λe w' f=>by
  obtain⟨v,rfl,rfl,h⟩:=f;cases DN s with
  | none=>exact⟨_,O,_,_,O,⟨O,O⟩,h⟩
  | some t=>exact⟨_,O,_,_,O,⟨O,O⟩,h⟩
theorem MB(s:Lu)(f:s.length<=1000000)(g:Bw I)(N:La)(d:Aa B w I N):
  Ce B I N 338 [S s] w (match F_ s with|none=>.tuple #[S [],Ab 15]|some t=>.tuple #[S t,Ab 0]):=by
 refine gC 3 (Nj s f _) ?_;rintro _ _ ⟨rfl,rfl⟩;refine gN 1 ?_ ?_<;>intro b
 ·exact gG 2 ⟨by rw[F_,Y3 (nB b)],d⟩
 refine gP 1 [] (SE s f g N) ?_;rintro _ w ⟨i,h,rfl,a,d⟩;refine gN 7 ?_ ?_<;>intro c
 ·refine gG 2 (⟨?_,d⟩);rw[F_,Y7 b];cases e:DN s with
  | none=>rfl
  | some t=>rw[e]at a;exact Aw a.2 c
 refine gG 3 (⟨?_,d⟩);rw[F_,Y7 b];cases e:DN s with
 | none=>rw[e]at a;have:=a.2;omega
 | some t=>rw[e]at a;obtain⟨rfl,rfl⟩:=a;rfl
end Go.Proofs.W9
namespace DS
open Go Gk
theorem xZ{α:Type}(Ar:α->Lv)(s:Nat)(a:∀x,(Ar x).length=s):∀(l:List α) (r:Lv) (i j:Nat) (x:α),l[i]?=some x->j<s->(l.flatMap Ar++r)[i*s+j]?=(Ar x)[j]?
 | [],_,_,_,_,h,_=>by simp at h
 | y::l,r,0,j,x,h,b=>by
  simp at h
  subst h;simp only[dA,OE,Yl,Yg]
  rw[Yf (by rw[a];exact b)]
 | y::l,r,i+1,j,x,h,b=>by
  simp only[dA,Yg]
  rw[Yy (by rw[a,T8];omega),a];have e:(i+1)*s+j-s=i*s+j:=by rw[T8];omega
  rw[e];exact xZ Ar s a l r i j x (su h) b
theorem Xvr{α:Type}(Ar:α->Lv)(s:Nat)(a:∀x,(Ar x).length=s)(f:α->α)(j:Nat)(v:Va)(b:∀x,Ar (f x)=(Ar x).set j v)(c:j<s):∀(l:List α) (r:Lv) (i:Nat),i<l.length->(l.flatMap Ar++r).set (i*s+j) v=(l.modify i f).flatMap Ar++r
 | [],_,_,h=>by simp at h
 | y::l,r,0,_=>by
  simp only[dA,OE,Yl,Yg]
  rw[u2 _ _ (by rw[a];exact c)];simp[b]
 | y::l,r,i+1,h=>by
  simp only[dA,Yg]
  rw[oQ _ _ (by rw[a,T8];omega),a];have e:(i+1)*s+j-s=i*s+j:=by rw[T8];omega
  rw[e,Xvr Ar s a f j v b c l r i (su h)]
  simp
theorem pW{α:Type}(Ar:α->Lv)(s:Nat)(a:∀x,(Ar x).length=s):∀(l:List α),(l.flatMap Ar).length=l.length*s
 | []=>by simp
 | y::l=>by simp only[dA,Y0,a,pW Ar s a l,Y4,T8];omega
abbrev Fa:=Int×Int×Va
abbrev Pl:=Int×Int×List Int
abbrev Ar(x:Fa):Lv:=[.int .u8 x.1,.int .u8 x.2.1,x.2.2]
theorem jL(x:Fa):(Ar x).length=3:=rfl
def Q1(P:List Fa)(i:Nat)(v:Va):List Fa:=P.modify i λx=>(x.1,x.2.1,v)
def Ea(Q:List Pl)(i:Nat)(xs:List Int):List Pl:=Q.modify i λx=>(x.1,x.2.1,xs)
theorem tj(P:List Fa)(i:Nat)(v:Va):(Q1 P i v).length=P.length:=by simp[Q1]
theorem mP{P:List Fa}{x:Fa}(h:P[i]?=some x)(r:Lv):(P.flatMap Ar++r)[0+i*3+2]?=some x.2.2:=by
 rw[Yl,xZ Ar 3 jL P r i 2 x h om];rfl
theorem aB{P:List Fa}(h:i<P.length)(r:Lv)(v:Va):(P.flatMap Ar++r).set (0+i*3+2) v=(Q1 P i v).flatMap Ar++r:=by
 rw[Yl];exact Xvr Ar 3 jL (λx=>(x.1,x.2.1,v)) 2 v (λ_=>rfl) om P r i h
def Bx(I:Im)(v:Va)(xs:List Int):Prop:=(xs=[]->v=.slice none 0 0)/\∃a c,v=.slice a xs.length c/\xs.length<=c/\RS I a 1 xs.length (xs.map Ab)
theorem Bx.mono{xs:List Int}(h:Bx I v xs)(f:Le I J):Bx J v xs:=let⟨b,a,c,e,d,g⟩:=h;⟨b,a,c,e,d,g.mono f⟩
theorem Bx.nil(I:Im):Bx I (.slice none 0 0) []:=⟨λ_=>rfl,none,0,O,Y9 _,RS.nil I 1⟩
def CE(I:Im)(P:List Fa)(Q:List Pl):Prop:=P.length=Q.length/\∀(i:Nat) (p:Fa) (q:Pl),P[i]?=some p->Q[i]?=some q->p.1=q.1/\p.2.1=q.2.1/\Bx I p.2.2 q.2.2
theorem CE.mono{P:List Fa}{Q:List Pl}(h:CE I P Q)(d:Le I J):CE J P Q:=⟨h.1,λi p q e f=>let⟨a,b,c⟩:=h.2 i p q e f;⟨a,b,c.mono d⟩⟩
theorem CE.nil(I:Im):CE I [] []:=⟨O,λ_ _ _ h=>by simp at h⟩
theorem CE.snoc{P:List Fa}{Q:List Pl}(h:CE I P Q)(k c:Int)(v:Va)(xs:List Int)(d:Bx I v xs):CE I (P++[(k,c,v)]) (Q++[(k,c,xs)]):=by
 refine⟨by simp[h.1],λi p q a b=>?_⟩;rcases Nat.lt_trichotomy i P.length with hi|hi|hi
 ·rw[Yf hi]at a;rw[Yf (by rw[<-h.1];exact hi)]at b;exact h.2 i p q a b
 ·subst hi;rw[Yy (Y9 _)]at a;rw[h.1,Yy (Y9 _)]at b;simp at a b
  subst a;subst b;exact⟨O,O,d⟩
 ·rw[T1 (by simp;omega)]at a;cases a
def EO(I:Im)(o:Nat)(P:List Fa)(Q:List Pl):Prop:=P.length=Q.length/\∀(i:Nat) (p:Fa) (q:Pl),P[i]?=some p->Q[i]?=some q->p.1=q.1/\p.2.1=q.2.1/\(i≠o->Bx I p.2.2 q.2.2)
theorem EO.mono{P:List Fa}{Q:List Pl}(h:EO I o P Q)(d:Le I J):EO J o P Q:=⟨h.1,λi p q e f=>let⟨a,b,c⟩:=h.2 i p q e f;⟨a,b,λhi=>(c hi).mono d⟩⟩
theorem CE.x{P:List Fa}{Q:List Pl}(h:CE I P Q)(o:Nat):EO I o P Q:=⟨h.1,λi p q d e=>let⟨a,b,c⟩:=h.2 i p q d e;⟨a,b,λ_=>c⟩⟩
theorem EO.Aai{P:List Fa}{Q:List Pl}(h:EO I o P Q)(v:Va)(xs:List Int):EO I o (Q1 P o v) (Ea Q o xs):=by
 refine⟨by simp[Q1,Ea,h.1],λj p q c d=>?_⟩;unfold Q1 at c;unfold Ea at d;rw[T2]at c d
 by_cases e:o=j
 ·subst e;simp only[if_true]at c d
  obtain⟨i,f,rfl⟩:=Gf.1 c;obtain⟨k,g,rfl⟩:=Gf.1 d;obtain⟨a,b,_⟩:=h.2 o i k f g;exact⟨a,b,λhi=>Aw O hi⟩
 ·simp only[e,if_false]at c d
  exact h.2 j p q (su c) (su d)
theorem EO.Aah{P:List Fa}{Q:List Pl}(h:EO I o P Q)(b:Nat)(v:Va)(xs:List Int)(i:Bx I v xs):EO I o (Q1 P b v) (Ea Q b xs):=by
 refine⟨by simp[Q1,Ea,h.1],λj p q c d=>?_⟩;unfold Q1 at c;unfold Ea at d;rw[T2]at c d
 by_cases e:b=j
 ·subst e;simp only[if_true]at c d
  obtain⟨k,f,rfl⟩:=Gf.1 c;obtain⟨l,g,rfl⟩:=Gf.1 d;obtain⟨a,b,_⟩:=h.2 b k l f g;exact⟨a,b,λ_=>i⟩
 ·simp only[e,if_false]at c d
  exact h.2 j p q (su c) (su d)
theorem EO.back{P:List Fa}{Q:List Pl}(h:EO I o P Q)(g:∀p q,P[o]?=some p->Q[o]?=some q->Bx I p.2.2 q.2.2):CE I P Q :=
 ⟨h.1,λi p q d f=>by
  obtain⟨a,b,c⟩:=h.2 i p q d f;refine⟨a,b,?_⟩
  by_cases e:i=o
  ·subst e;exact g p q d f
  ·exact c e⟩
def IJ(n:Nat)(o:Nat):List Pl->List Int->List Nat->List Pl
 | Q,_,[]=>Q
 | Q,done,b::r=>IJ n o (Ea (Ea Q o (done++[(b:Int)+1])) b [(n:Int)]) (done++[(b:Int)+1]) r
theorem pt(n o:Nat):∀(r:List Nat) (Q:List Pl) (done:List Int),(IJ n o Q done r).length=Q.length
 | [],_,_=>rfl
 | b::r,Q,done=>by rw[IJ,pt n o r];simp[Ea]
theorem Xzr{E:Nat}{xs:List Int}(f:Aa B w I N)(d:N[k]?=some (Ao E 1 v xs.length (xs.map Ab)))(p:xs=[]->v=.slice none 0 0):∃J,Le I J/\Bx J v xs/\Aa B w J (N.eraseIdx k):=by
 rcases JP xs.length with e|e
 ·have hx:xs=[]:=Yc e;subst hx;obtain⟨a,c,rfl,x,_⟩:=f.AP d;exact⟨I,Le.refl I,⟨p,a,c,O,x,by simp,λh=>Aw h sz⟩,f.drop d⟩
 ·obtain⟨b,cap,r,rfl,q,y,_,_,i⟩:=f.AF d e;have m:k<N.length:=(Y1.1 d).1;obtain⟨J,s,t,g⟩:=i.freeze (k:=k) (b:=b) (o:=Xd (xs.map Ab++r) E) (by simp[m,Ad]);refine⟨J,s,⟨p,_,_,O,q,by simp,λ_=>⟨_,O,O,_,_,_,t,?_⟩⟩,by simpa[oR]using g⟩;intro j u n;have l:j<(xs.map Ab).length:=(Y1.1 n).1;simp only[Yl,qN]
  rw[Yf l];exact n
abbrev GR:=Nat×List Nat
def AL:List UInt8->Int->List Pl->List GR->List Int->Except (Int×Int) (List Pl)
 | [],_,Q,_,a=>if 0<a.length then .error (23,a.getD (a.length-1) 0)else .ok (Q++[(7,0,[])])
 | c::r,i,Q,b,a =>
  if c.toNat=63 then AL r (i+1) (Q++[(1,0,[])]) b a
  else if c.toNat=42 then(match r with
   | d::r'=>if d.toNat=42 then AL r' (i+2) (Q++[(2,0,[])]) b a else AL (d::r') (i+1) (Q++[(3,0,[])]) b a
   | []=>AL [] (i+1) (Q++[(3,0,[])]) b a)
  else if c.toNat=40 then(if b.length=4 then .error (24,i)else AL r (i+1) (Q++[(4,0,[])]) ((Q.length,[])::b) (a++[i]))
  else if c.toNat=124 then(match b with
   | []=>.error (10,i)
   | (o,e)::rest=>AL r (i+1) (Q++[(5,0,[])]) ((o,e++[Q.length])::rest) a)
  else if c.toNat=41 then(match b with
   | []=>.error (10,i)
   | (o,e)::rest=>AL r (i+1) (IJ Q.length o Q [] e++[(6,0,[])]) rest (a.take rest.length))
  else if c.toNat=92 then(match r with|[]=>.error (10,i)|d::r'=>AL r' (i+2) (Q++[(0,(d.toNat:Int),[])]) b a)
  else AL r (i+1) (Q++[(0,(c.toNat:Int),[])]) b a
theorem pI(i:Int)(Q:List Pl)(b:List GR)(a:List Int):AL [] i Q b a=if 0<a.length then .error (23,a.getD (a.length-1) 0)else .ok (Q++[(7,0,[])]):=by rw[AL.eq_def]
theorem Xn(c:UInt8)(r:List UInt8)(i:Int)(Q:List Pl)(a:List GR)(BF:List Int):AL (c::r) i Q a BF =
  if c.toNat=63 then AL r (i+1) (Q++[(1,0,[])]) a BF
  else if c.toNat=42 then(match r with
   | d::r'=>if d.toNat=42 then AL r' (i+2) (Q++[(2,0,[])]) a BF else AL (d::r') (i+1) (Q++[(3,0,[])]) a BF
   | []=>AL [] (i+1) (Q++[(3,0,[])]) a BF)
  else if c.toNat=40 then(if a.length=4 then .error (24,i)else AL r (i+1) (Q++[(4,0,[])]) ((Q.length,[])::a) (BF++[i]))
  else if c.toNat=124 then(match a with
   | []=>.error (10,i)
   | (o,b)::rest=>AL r (i+1) (Q++[(5,0,[])]) ((o,b++[Q.length])::rest) BF)
  else if c.toNat=41 then(match a with
   | []=>.error (10,i)
   | (o,b)::rest=>AL r (i+1) (IJ Q.length o Q [] b++[(6,0,[])]) rest (BF.take rest.length))
  else if c.toNat=92 then(match r with|[]=>.error (10,i)|d::r'=>AL r' (i+2) (Q++[(0,(d.toNat:Int),[])]) a BF)
  else AL r (i+1) (Q++[(0,(c.toNat:Int),[])]) a BF:=by rw[AL.eq_def]
def cmp(l:Lu):Except (Int×Int) (List Pl):=if 200<l.length then .error (2,0)else AL l 0 [] [] []
def Frames(Q:List Pl):Nat->List GR->Prop
 | _,[]=>True
 | lim,(o,a)::r=>o<lim/\Q[o]?=some (4,0,[])/\a.length<=Q.length/\(∀b∈a,o<b/\b<Q.length)/\Frames Q o r
theorem Frames.grow{Q d:List Pl}:∀{c:List GR} {lim a:Nat},Frames Q lim c->lim<=a->Q.length<=d.length->(∀i,i<lim->Q[i]?=some (4,0,[])->d[i]?=some (4,0,[]))->Frames d a c
 | [],_,_,_,_,_,_=>trivial
 | (o,m)::r,lim,a,⟨h,j,n,e,k⟩,p,l,g =>
  ⟨om,g o h j,om,λb f=>⟨(e b f).1,by have:=(e b f).2;omega⟩,k.grow (Y9 _) l λi hi=>g i om⟩
theorem Frames.app{Q:List Pl}{stk:List GR}(h:Frames Q Q.length stk)(x:Pl):Frames (Q++[x]) (Q++[x]).length stk :=
 h.grow sz sz λi hi a=>by rw[Yf hi];exact a
theorem Xf9(n o:Nat):∀(c:List Nat) (Q:List Pl) (done:List Int) (i:Nat),i≠o->(∀b∈c,b≠i)->(IJ n o Q done c)[i]?=Q[i]?
 | [],_,_,_,_,_=>rfl
 | b::r,Q,done,i,h,d=>by
  rw[IJ,Xf9 n o r _ _ i h λx hx=>d x (Q8 _ hx)];have a:b≠i:=d b sz;simp[Ea,T2,a,Ne.symm h]
theorem Frames.close{Q:List Pl}{a:List Nat}{rest:List GR}(h:Frames Q Q.length ((o,a)::rest))(x:Pl):Frames (IJ Q.length o Q [] a++[x]) (IJ Q.length o Q [] a++[x]).length rest:=by
 obtain⟨g,j,k,c,d⟩:=h;refine d.grow (by simp[pt];omega) (by simp[pt]) λi hi f=>?_
 rw[Yf (by rw[pt];omega),Xf9 _ _ _ _ _ _ om λb e=>by have:=(c b e).1;omega];exact f
def FY(f:GR):List Int:=(f.1::f.2).map λ(x:Nat)=>(x:Int)
theorem Xxt{st:List (Va×List Int)}{f:GR}{rest:List GR}(h:st.map (·.2)=(f::rest).reverse.map FY):∃b i,st=b++[(i,FY f)]/\b.map (·.2)=rest.reverse.map FY:=by
 have a:st≠[]:=λe=>by subst e;simp at h
 have d:=zh a;rw[<-d,List.reverse_cons,Yn,Yn]at h;simp only[Yw,EK]at h
 have c:=List.append_inj' h O;refine⟨st.dropLast,(st.getLast a).1,?_,c.1⟩;have g:(st.getLast a).2=FY f:=su c.2
 rw[<-g];exact d.symm
theorem Xyv(a:Aa B w I N):Aa B w I (Ap []::N):=by
 obtain⟨h,c,b⟩:=a;exact⟨h,⟨[],h,O,O,c⟩,b⟩
def Ej(I:Im)(p:Addr)(Q:List Pl)(n:Nat):Prop:=∃a c P,At I p [.slice a P.length c,Ab n]/\P.length<=c/\RS I a 3 P.length (P.flatMap Ar)/\CE I P Q
theorem Ej.mono{Q:List Pl}(h:Ej I p Q n)(b:Le I J):Ej J p Q n:=let⟨a,c,P,d,e,f,g⟩:=h;⟨a,c,P,d.mono b,e,f.mono b,g.mono b⟩
theorem CE.mh{P:List Fa}{Q:List Pl}(h:CE I P Q){k c:Int}(g:Q[o]?=some (k,c,[])):P[o]?=some (k,c,.slice none 0 0):=by
 have d:o<Q.length:=(Y1.1 g).1;obtain⟨⟨j,l,m⟩,f⟩:∃p,P[o]?=some p:=⟨_,Y2 (by rw[h.1];exact d)⟩
 obtain⟨a,b,i,_⟩:=h.2 o _ _ f g;have e:=i O;simp only at a b e
 subst a;subst b;subst e;exact f
def iter{β:Type}(f:β->Nat->β)(b:β):Nat->β
 | 0=>b
 | k+1=>f (iter f b k) k
def AW(s p:Lu):Bool:=decide ((p.length:Int)<=(s.length:Int))&&(s.take (p.length:Int).toNat==p)
def BX:List UInt8->Int->List Int->Int×Int
 | [],_,o=>if 0<o.length then(23,o.getD (o.length-1) 0)else(0,0)
 | c::r,i,o =>
  if c.toNat=40 then(if o.length=4 then(24,i)else BX r (i+1) (o++[i]))
  else if c.toNat=41 then(if o.length=0 then(10,i)else BX r (i+1) (o.take (o.length-1)))
  else if c.toNat=124 then(if o.length=0 then(10,i)else BX r (i+1) o)
  else if c.toNat=92 then(match r with|[]=>(10,i)|_::r'=>BX r' (i+2) o)
  else BX r (i+1) o
theorem Rp(i:Int)(o:List Int):BX [] i o=if 0<o.length then(23,o.getD (o.length-1) 0)else(0,0):=by rw[BX.eq_def]
theorem Xio(c:UInt8)(r:List UInt8)(i:Int)(o:List Int):BX (c::r) i o=if c.toNat=40 then(if o.length=4 then(24,i)else BX r (i+1) (o++[i]))
  else if c.toNat=41 then(if o.length=0 then(10,i)else BX r (i+1) (o.take (o.length-1)))
  else if c.toNat=124 then(if o.length=0 then(10,i)else BX r (i+1) o)
  else if c.toNat=92 then(match r with|[]=>(10,i)|_::r'=>BX r' (i+2) o)
  else BX r (i+1) o:=by rw[BX.eq_def]
def cx(l:Lu):Int×Int:=if 200<l.length then(2,0)else BX l 0 []
end DS
namespace Go.Proofs.W9
open Gk DS
open Tryz
def HA(E:Nat)(st:List (Va×List Int)):X1:=Ap (st.map λx=>Ao E 1 x.1 x.2.length (x.2.map Ab))
theorem Si{a pre r:List Nat}(h:a=pre++b::r)(c:Lv):(((o::a).map λ(x:Nat)=>(x:Int)).map Ab++c)[1+(pre.length:Int).toNat*1]?=some (Ab b):=by
 subst h;simp[LW 1]
theorem TI(d n:Nat)(h sv e:Va)(xs:Lv)(g b:Int)(F:La)(f:Aa B w I (Ad d [h,sv,e] 400::Ao 461 3 h n xs::F))(l:n<=1000):
  Cz 280 [ptr d 0,.int .u8 g,.int .u8 b] w λv w'=>v=.tuple #[]/\∃a,Aa B w' I (Ad d [a,sv,e] 400::Ao 461 3 a (n+1) (xs++[.int .u8 g,.int .u8 b,.slice none 0 0])::F):=by
 refine gG 13 ?_;intro j i k c w f;exact⟨O,_,f⟩
theorem Xsd(t n:Nat)(o sv u:Va)(xs:Lv)(st:List (Va×List Int))(d:List Int)(at_:Int)(F:La)(a:Aa B w I (Ad t [o,sv,u] 400::Ao 461 3 o n xs::Ao 213 1 sv st.length (st.map (·.1))::Ao 3 1 u d.length (d.map Ab)::HA 3 st::F))(J:n<=1000)(H:st.length<=1000)(z:d.length<=1000):
  Cz 281 [ptr t 0,Ab at_] w λv w'=>v=.tuple #[]/\∃r s p x,Aa B w' I (Ad t [r,s,p] 400::Ao 461 3 r (n+1) (xs++[.int .u8 4,.int .u8 0,.slice none 0 0])::Ao 213 1 s (st.length+1) (st.map (·.1)++[x])::Ao 3 1 p (d.length+1) (d.map Ab++[Ab at_])::HA 3 (st++[(x,[(n:Int)])])::F):=by
 refine gG 0 ?_;obtain⟨K,L,rfl,A,_⟩:=a.vS 1;obtain⟨M,P,rfl,C,_⟩:=a.vS 2;obtain⟨D,G,rfl,y,_⟩:=a.vS 3;refine gD [0] [23,26] [0,1,2,3,4,5,6,7,8,9,10,14,15,16,17,18] ?_;intro w a;refine gH 14 (gH 2 (gB 11 19 [] [11,12,13,20,21,22,23,24,25,26] ?_ ?_))
 ·refine gH 1 ?_;intro e w a;refine gH 0 (gB 12 19 [] [12,13,20,21,22,23,24,25,26] ?_ ?_)
  ·refine gH 1 ?_;intro q w a;refine gH 0 (gB 13 19 [19,20,21,22,23,24,25,26] [13,20,21,22,23,24,25,26] ?_ ?_)
   ·refine gH 1 ?_;intro f j b w a;refine gH 1 ?_;intro i w a;refine gH 1 ?_;intro g l c w a;refine gH 3 ?_;intro w a;refine gH 3 ?_;intro w a;refine gH 1 ?_;replace a:=a.BB (k:=0) (E:=3) (size:=1) (n:=1) O O (by unfold maxLen;omega);replace a:=a.push (k:=4) O;refine gC 0 (TI _ _ _ _ _ _ _ _ _ a om) ?_;rintro _ w ⟨rfl,o,a⟩;refine gG 0 ?_;replace a:=a.say (k:=4) (A':=HA 3 (st++[(.slice (some (ad e 0)) 1 1,[(n:Int)])])) O (λh m=>by rw[HA,Yn];exact m);exact⟨O,_,_,_,_,a⟩
   ·refine gH 1 ?_;intro i w a;refine gH 1 ?_;intro f j b w a;refine gH 1 ?_;intro g l c w a;refine gH 3 ?_;intro w a;refine gH 3 ?_;intro w a;refine gH 1 ?_;replace a:=a.BB (k:=0) (E:=3) (size:=1) (n:=1) O O (by unfold maxLen;omega);replace a:=a.push (k:=4) O;refine gC 0 (TI _ _ _ _ _ _ _ _ _ a om) ?_;rintro _ w ⟨rfl,o,a⟩;refine gG 0 ?_;replace a:=a.say (k:=4) (A':=HA 3 (st++[(.slice (some (ad e 0)) 1 1,[(n:Int)])])) O (λh m=>by rw[HA,Yn];exact m);exact⟨O,_,_,_,_,a⟩
  ·refine gH 1 ?_;intro i w a;refine gH 1 ?_;intro q w a;refine gH 1 ?_;intro f j b w a;refine gH 1 ?_;intro g l c w a;refine gH 3 ?_;intro w a;refine gH 3 ?_;intro w a;refine gH 1 ?_;replace a:=a.BB (k:=0) (E:=3) (size:=1) (n:=1) O O (by unfold maxLen;omega);replace a:=a.push (k:=4) O;refine gC 0 (TI _ _ _ _ _ _ _ _ _ a om) ?_;rintro _ w ⟨rfl,o,a⟩;refine gG 0 ?_;replace a:=a.say (k:=4) (A':=HA 3 (st++[(.slice (some (ad e 0)) 1 1,[(n:Int)])])) O (λh m=>by rw[HA,Yn];exact m);exact⟨O,_,_,_,_,a⟩
 ·refine gH 1 ?_;intro i w a;refine gH 1 ?_;intro e w a;refine gH 1 ?_;intro q w a;refine gH 1 ?_;intro f j b w a;refine gH 1 ?_;intro g l c w a;refine gH 3 ?_;intro w a;refine gH 3 ?_;intro w a;refine gH 1 ?_;replace a:=a.BB (k:=0) (E:=3) (size:=1) (n:=1) O O (by unfold maxLen;omega);replace a:=a.push (k:=4) O;refine gC 0 (TI _ _ _ _ _ _ _ _ _ a om) ?_;rintro _ w ⟨rfl,o,a⟩;refine gG 0 ?_;replace a:=a.say (k:=4) (A':=HA 3 (st++[(.slice (some (ad e 0)) 1 1,[(n:Int)])])) O (λh m=>by rw[HA,Yn];exact m);exact⟨O,_,_,_,_,a⟩
theorem Ru(bc:Nat)(lv sv av K:Va)(i:List Fa)(L:List Pl)(st:List (Va×List Int))(o:Nat)(g:List Nat)(d:List Int)(F:La)
  (a:Aa B w I (Ad bc [lv,sv,av] 400::Ao 461 3 lv i.length (i.flatMap Ar)::Ao 213 1 sv (st.length+1) (st.map (·.1)++[K])::Ao 3 1 av d.length (d.map Ab)::HA 3 (st++[(K,(o::g).map λ(x:Nat)=>(x:Int))])::F))
  (hR:CE I i L) (ae:∀b∈g,b≠o/\b<i.length) (ho:o<i.length) (ko co:Int) (s:i[o]?=some (ko,co,.slice none 0 0)) (z:L[o]?=some (ko,co,[])) (hn:i.length<=1000) (hd:st.length<=1000) (b4:d.length=st.length+1) (b3:g.length<=1000) :
  Calls prog 282 #[ptr bc 0] w (AY λv w'=>v=.tuple #[]/\∃ak am R P' J,Le I J/\CE J P' (IJ i.length o L [] g++[(6,0,[])])/\
   Aa B w' J (Ad bc [ak,am,R] 400::Ao 461 3 ak P'.length (P'.flatMap Ar)::Ao 213 1 am st.length (st.map (·.1))::Ao 3 1 R st.length ((d.take st.length).map Ab)::HA 3 st::F)):=by
 obtain⟨gl,cl,rl,rfl,bd,X,be,Y,a⟩:=a.AF (k:=1) O om;try dsimp only[List.set]at a
 obtain⟨gs,sc,rs,rfl,ag,ah,ai,aj,a⟩:=a.AF (k:=2) O om;try dsimp only[List.set]at a
 obtain⟨aa,ac,rfl,b2,_⟩:=a.vS 3;refine gH 6 ?_;rw[show((st.length+1:Nat):Int)-1=(st.length:Int)by omega];refine gH 7 (.val (.lo O a (k:=2) O NP (v:=K) sz) O (gG 1 (gD [0] [16,19] [0,1,2,3,4,5,6,7,8,9,10,11,12,13,14,15,16,17,18,19] ?_)));intro w a;refine gH 14 (gH 3 ?_);intro w a;refine gH 3 ?_;intro w a;replace a:=a.A1 (k:=2) (n:=st.length+1) (cap:=sc) O ag ah ai aj;try dsimp only[List.set]at a
 replace a:=a.P8 (k:=2) (m:=(st.length:Int).toNat) O sz;try dsimp only[List.set]at a
 obtain⟨a2,c2,e2,a⟩:=a.KL (k:=3) (f:=Ab) (m:=(st.length:Int).toNat) O (by simp;omega);try dsimp only[List.set]at a
 have e3:(st.map (·.1)++[K]).take ((st.length:Int).toNat*1)=st.map (·.1):=by rw[Ca];exact List.take_left' sz
 rw[e3]at a;rw[e2]at a;have e4:HA 3 (st++[(K,(o::g).map λ(x:Nat)=>(x:Int))])=Ap ((st.map λx=>Ao 3 1 x.1 x.2.length (x.2.map Ab))++[Ao 3 1 K ((o::g).map λ(x:Nat)=>(x:Int)).length (((o::g).map λ(x:Nat)=>(x:Int)).map Ab)]):=by rw[HA,Yn];rfl
 rw[e4]at a;replace a:=a.pop (k:=4) O;try dsimp only[List.set]at a
 obtain⟨gm,cm,rm,ab,bf,bg,bh,bi,hT⟩:=a.AF (k:=0) O sz;have a1:((o::g).map λ(x:Nat)=>(x:Int)).length=g.length+1:=by simp
 rw[a1]at ab;subst ab;have a:=hT;clear hT;try dsimp only[List.set]at a
 generalize sliced (some (ad gs 0)) 0 (st.length:Int).toNat sc 1=G at a;generalize Value.slice a2 (d.take (st.length:Int).toNat).length c2=C at a;refine gH 2 ?_;obtain⟨ao,az,ay⟩:∃ao,(0<g.length->ao=some (ad gm 1))/\sliced (some (ad gm 0)) (1:Int).toNat (g.length+1) cm 1=.slice ao g.length (cm-1):=⟨if cm=1 then some (ad gm 0)else some (ad gm 1),λh=>Y3 om,by simp[sliced,C7]⟩
 rw[ay];refine gG 2 (.lk [0,3,38,39] (σ:=List Nat×List Nat×List Fa×List Pl×Va×Im) (λ(pre,rem,P,Q,H,J) _m=>(40,Ab pre.length)::_m) (λ(pre,rem,P,Q,H,J) w=>g=pre++rem/\Le I J/\EO J o P Q/\P.length=i.length/\(∃k c,P[o]?=some (k,c,H))/\(∃k c,Q[o]?=some (k,c,pre.map λ(x:Nat)=>(x:Int)+1))/\(pre=[]->H=.slice none 0 0)/\IJ i.length o Q (pre.map λ(x:Nat)=>(x:Int)+1) rem=IJ i.length o L [] g/\Aa B w J (Ao 3 1 H pre.length ((pre.map λ(x:Nat)=>(x:Int)+1).map Ab)::Ad gm (((o::g).map λ(x:Nat)=>(x:Int)).map Ab++rm) 3::Ad bc [.slice (some (ad gl 0)) i.length cl,G,C] 400::Ad gl (P.flatMap Ar++rl) 461::Ao 213 1 G (st.length:Int).toNat (st.map (·.1))::Ao 3 1 C (d.take (st.length:Int).toNat).length ((d.take (st.length:Int).toNat).map Ab)::HA 3 st::F)) (λ(pre,rem,P,Q,H,J)=>rem.length) ([],g,i,L,.slice none 0 0,I) ⟨O,Le.refl I,hR.x o,O,⟨_,_,s⟩,⟨_,_,z⟩,λ_=>rfl,O,a.Al _ _⟩ ?_);rintro⟨pre,rem,P,Q,H,J⟩ w ⟨t,hJ,hX,E,⟨ko,co,s⟩,⟨kq,cq,z⟩,a3,Z,a⟩;have A:g.length=pre.length+rem.length:=by rw[t,Y0]
 refine gN 1 ?_ ?_<;>intro bb
 ·obtain⟨b,r,rfl⟩:∃b r,rem=b::r:=by
   cases rem with
   | nil=>simp at A;omega
   | cons b r=>exact⟨b,r,O⟩
  have V:=az om;subst V;have W:=(ae b (by rw[t];simp)).1;have ba:=(ae b (by rw[t];simp)).2;have bk:pre.length<=1000:=om
  refine gH 1 (.val (.lo O a (k:=1) O BP (v:=Ab b) (Si t rm)) O (gG 1 (gD [1,1,1] [23] [0,1,2,3,4,5,6,7,8,9,10,11,12,13,14,15,16,17,18,19,20,21,22,23] ?_)));intro w a;refine gH 6 (AN.y 6 (λw _ _ U a=>.lo O a (k:=0) O BP (v:=Ab (o:Nat)) O) (gH 6 (AN.y 13 (λw _ _ U a=>.lo O a (k:=0) O BP (v:=Ab (o:Nat)) O) (gH 2 (AN.y 16 (λw _ _ U a=>.lo O a (k:=2) O NP (v:=H) (mP s rl)) (gH 3 ?_))))));intro br w a;refine gH 1 ?_;intro M T ar w a;refine gH 2 (AN.e ?_);refine .s1 a (k:=3) O O O O oz (by rw[Y0,pW Ar 3 jL];(try simp only[tj]);omega) ?_;intro w a;try dsimp only[List.set]at a
  rw[aB (by(try simp only[tj]);omega)]at a;refine gG 0 (gD [2] [13] [0,1,2,3,4,5,6,7,8,9,10,11,12,13] ?_);intro w a;refine gH 11 ?_;intro S w a;refine gH 2 (AN.e ?_);refine .s1 a (k:=4) O O O O oz (by rw[Y0,pW Ar 3 jL];(try simp only[tj]);omega) ?_;intro w a;rw[aB (by(try simp only[tj]);omega)]at a;obtain⟨J2,l,a0,a⟩:=a.fZ 0;have D:Bx J2 (.slice (some (ad S 0)) 1 1) [(i.length:Int)]:=⟨(λh=>by cases h),_,_,O,Y9 _,O,λ_=>⟨_,O,O,_,_,_,a0,λj u hj=>by simpa using hj⟩⟩
  refine gG 0 ?_
  skip
  refine gH 1 ?_;rw[show((pre.length:Nat):Int)+1=((pre++[b]).length:Nat)by simp];refine gG 1 ?_;refine rd (pre++[b],r,Q1 (Q1 P o (.slice M (pre.length+1) T)) b (.slice (some (ad S 0)) 1 1),Ea (Ea Q o (pre.map (λ(x:Nat)=>(x:Int)+1)++[(b:Int)+1])) b [(i.length:Int)],.slice M (pre.length+1) T,J2) ⟨by rw[t];simp,hJ.trans l,((hX.Aai _ _).mono l).Aah _ _ _ D,by simp[Q1,E],⟨ko,co,?_⟩,⟨kq,cq,?_⟩,λh=>by simp at h,?_,?_⟩ sz
  ·simp[Q1,T2,s,W]
  ·simp[Ea,T2,z,W]
  ·rw[<-Z,IJ];simp
  ·simpa using a
 refine gG 0 ?_;have af:rem=[]:=by
  cases rem with
  | nil=>rfl
  | cons b r=>simp at A;omega
 subst af;replace a:=a.drop (k:=1) O;obtain⟨J2,l,D,a⟩:=Xzr (k:=0) (xs:=pre.map λ(x:Nat)=>(x:Int)+1) a (by rw[Ym];rfl) (λh=>a3 (su h));replace a:=a.A1 (k:=1) (n:=P.length) (cap:=cl) O om X (by rw[pW Ar 3 jL]) (by rw[pW Ar 3 jL]at Y ⊢;omega);rw[<-E]at a ⊢;refine gC 1 (TI _ _ _ _ _ _ _ _ _ a om) ?_;rintro _ w ⟨rfl,al,a⟩;refine gG 0 ?_;replace a:=a.say (k:=1) (A':=Ao 461 3 al (P.length+1) ((P++[((6:Int),(0:Int),Value.slice none 0 0)]).flatMap Ar)) O (λh hh=>by rw[OC];exact hh);refine⟨O,al,G,C,P++[(6,0,.slice none 0 0)],J2,hJ.trans l,?_,?_⟩
 ·rw[E,<-Z,IJ];exact((hX.mono l).back (λp q hp hq=>by rw[s]at hp;rw[z]at hq;cases hp;cases hq;exact D)).snoc 6 0 _ _ (Bx.nil _)
 ·have e5:(d.take (st.length:Int).toNat).length=st.length:=by(try rw[Yh]);rw[Yj];omega
  rw[e5]at a;rw[Y0];exact a
theorem Xh3(s p:Lu)(w:Wo)(b:s.length<=140737488351232)(a:p.length<=140737488351232):
  Cz 117 [S s,S p] w λv w'=>v=.bool (AW s p)/\w=w':=by
 refine gH 14 ?_;exact gG 1 ⟨O,O⟩
theorem pq(s p:Lu)(w:Wo)(b:s.length<=140737488351232)(a:p.length<=140737488351232):
  Cz 113 [S s,S p] w λv w'=>v=.bool (AW s p)/\w=w':=by
 refine gC 3 (Xh3 _ _ _ b a) ?_;rintro _ _ ⟨rfl,rfl⟩;exact gG 1 ⟨O,O⟩
open Pc Ul
structure AJ(I:Im):Prop where
 iZ:Bw I
 pow : ∀(B w : World) (N : List X1), Aa B w I N → Go.Lib.TabIs prog w "internal/strconv.uint64pow10" .u64 Go.Lib.pow10Tab
 max:∀(B w:Wo) (N:La),Aa B w I N->∃m,w.cell? ⟨1,0,none⟩=some (.int .i64 m)
theorem AJ.mono(h:AJ I)(c:Le I J):AJ J :=
 have e:∀(B w:Wo) (N:La),Aa B w J N->Aa B w I N:=λB w N ⟨g,d,a⟩=>⟨g,d,a.os,a.tape,a.output,λb o hi=>a.Ha b o (c.h b o hi),a.own,a.nodup,λb o f=>by
  cases hi:I b with
  | none=>rfl
  | some x=>have:=a.apart b o f;rw[c.h b x hi]at this;cases this⟩
 ⟨h.iZ.mono c,λB w N s=>h.pow B w N (e B w N s),λB w N s=>h.max B w N (e B w N s)⟩
theorem jI(a:Aa B w I N)(n:Nat):Aa B (w.drewN n) I N:=a.world O O O O
theorem Xw0(a:Aa B w I N)(c:Array Obj):Aa B (Go.Sort.grow w c) I N :=
 a.grown ⟨O,O,O,by simp[Go.Sort.grow],λk b=>by simp[Go.Sort.grow,Array.getElem?_append,b]⟩
theorem xL(n:Nat)(f:n<=65535)(b:AJ I)(N:La)(a:Aa B w I N):Calls prog 22 #[Ab (n:Nat)] w (AY λv w'=>v=S (Go.Lib.decDigits n)/\Aa B w' I N) :=
 (strconv_Itoa n om om w (b.pow B w N a)).mono λe w' c=>by
  obtain⟨rfl,k,d,rfl⟩:=c;refine⟨_,O,?_,Xw0 (jI a k) d⟩;unfold Go.Lib.itoa;rw[Y3 om];(try rw[Yh])
theorem Xrj(s:Lu)(f:s.length<=1000000)(b:AJ I)(N:La)(a:Aa B w I N):Calls prog 18 #[S s,S B0] w (AY λv w'=>v=.tuple #[S (Go.Lib.cut s B0).1,S (Go.Lib.cut s B0).2.1,.bool (Go.Lib.cut s B0).2.2]/\Aa B w' I N):=by
 obtain⟨m,d⟩:=b.max B w N a;refine(strings_Cut ⟨s.toArray⟩ ⟨B0.toArray⟩ m w (by show s.length<_;omega) d).mono λe w' c=>?_
 obtain⟨rfl,n,rfl⟩:=c;exact⟨_,O,O,jI a n⟩
theorem sK(s:Lu)(c:Ui)(g:s.length<=1000000)(b:AJ I)(N:La)(a:Aa B w I N):Calls prog 18 #[S s,S [c]] w (AY λv w'=>v=.tuple #[S (BD [c] s),S ((Xu [c] s).drop 1),.bool (!(Xu [c] s).isEmpty)]/\Aa B w' I N):=by
 obtain⟨m,f⟩:=b.max B w N a;refine(strings_Cut ⟨s.toArray⟩ ⟨[c].toArray⟩ m w (by show s.length<_;omega) f).mono λe w' d=>?_
 obtain⟨rfl,n,rfl⟩:=d;refine⟨_,O,?_,jI a n⟩;show Value.tuple #[S (Go.Lib.cut s [c]).1,S (Go.Lib.cut s [c]).2.1,.bool (Go.Lib.cut s [c]).2.2]=_
 rw[OV]
theorem za(l:List ByteArray):l.map Value.string=(l.map (·.data.toList)).map S:=by
 rw[iU];rfl
theorem QE(s:Lu)(i:s.length<=1000000)(f:AJ I)(N:La)(a:Aa B w I N):Calls prog 214 #[S s,S [47]] w (AY λv w'=>∃b,v=.slice (some (ad b 0)) (AO s).length (AO s).length/\Aa B w' I (Ad b ((AO s).map S) 9::N)):=by
 obtain⟨m,h⟩:=f.max B w N a;refine(strings_Split ⟨s.toArray⟩ ⟨[47].toArray⟩ m w (by show s.length<_;omega) h de).mono λe w' g=>?_
 obtain⟨rfl,rfl⟩:=g;have c:(AO s).length=Go.Lib.countB ⟨s.toArray⟩ ⟨[47].toArray⟩+1:=fT _ s (Y9 _);have d:(Go.Lib.splitB ⟨[47].toArray⟩ 0 (Go.Lib.countB ⟨s.toArray⟩ ⟨[47].toArray⟩) ⟨s.toArray⟩).map Value.string=(AO s).map S:=by
  rw[za,Go.Lib.splitB_data];show List.map S (Go.Lib.splitK [47] 0 (Go.Lib.count s [47]) s)=_
  rw[Ng _ s (Y9 _)]
 refine⟨_,O,w.heap.size,by rw[c],?_⟩;rw[d];exact a.alloc _
theorem Uj(p:Lu)(hl:p.length<=1000000)(hK:AJ I)(N:La)(f:Aa B w I N):
  Ce B I N 339 [S p] w (S (Dc p)):=by
 refine gC 2 (pq p _ _ om de) ?_;rintro _ _ ⟨rfl,rfl⟩;refine gM 1 ?_ ?_<;>intro d T
 ·refine gG 2 (⟨?_,f⟩);cases p with
  | nil=>rfl
  | cons a b=>rw[Dc,Y3 (λe=>by subst e;simp[AW]at d;omega)]
 refine gG 2 ?_;have am:1<=p.length:=by cases p with|nil=>simp[AW]at d|cons a b=>simp
 have Q:=um (AO (p.drop 1));rw[qg,Y6]at Q;refine gP 2 [] (QE (p.drop 1) (by rw[Y6];omega) hK N) ?_;rintro _ w ⟨u,rfl,f⟩;refine gG 2 ?_;replace f:=f.Al 9 1;refine .lk [16,17] (σ:=Va×Nat) (λ(H,i) _m=>(3,H)::(4,.bool (decide (0<i)&&G1 ((AO (p.drop 1)).getD (i-1) [])))::(18,Ab (i:Nat))::_m) (λ(H,i) w=>i<=(AO (p.drop 1)).length/\Aa B w I (Ao 9 1 H (List.foldl BJ [] ((AO (p.drop 1)).take i)).length ((List.foldl BJ [] ((AO (p.drop 1)).take i)).map S)::Ad u ((AO (p.drop 1)).map S) 9::N)) (λ(H,i)=>(AO (p.drop 1)).length-i) (.slice none 0 0,0) ⟨Y5 _,f⟩ ?_;rintro⟨H,i⟩ w ⟨hi,f⟩;refine gN 1 ?_ ?_<;>intro U
 ·obtain⟨x,hx⟩:∃x,(AO (p.drop 1))[i]?=some x:=⟨_,Y2 om⟩
  have v:(List.foldl BJ [] ((AO (p.drop 1)).take (i+1)))=BJ (List.foldl BJ [] ((AO (p.drop 1)).take i)) x:=by rw[Yv,hx,K9];rfl
  have L:(AO (p.drop 1)).getD i []=x:=by rw[Ya,hx];rfl
  have A:(decide (0<i+1)&&G1 ((AO (p.drop 1)).getD (i+1-1) []))=G1 x:=by rw[Nat.add_sub_cancel,L,decide_eq_true om,HH]
  obtain⟨ka,kc,rfl,P,_⟩:=f.vS 0;have ak:(List.foldl BJ [] ((AO (p.drop 1)).take i)).length<=1000001:=by
   have h1:=um (List.foldl BJ [] ((AO (p.drop 1)).take i));have h2:=yr ((AO (p.drop 1)).take i) [];have h3:CZ (AO (p.drop 1))=CZ ((AO (p.drop 1)).take i)+CZ ((AO (p.drop 1)).drop i):=by rw[<-uC,FA]
   have h4:=qg (p.drop 1);rw[Y6]at h4;rw[show CZ []=0 from O]at h2;omega
  refine gH 1 ?_;refine .val (.lo O f (k:=1) O Bq (by rw[Yl];(try rw[Yh]);rw[Ca,Yu,hx];rfl)) O ?_;refine gM 5 ?_ ?_<;>intro h V
  ·refine gG 2 ?_;refine⟨(_,i+1),⟨O,by show some (Value.bool _)=some _;rw[A];rw[show x=[46]by simpa using h];rfl,O,O,O,trivial⟩,⟨om,?_⟩,od⟩;rw[v,BJ,Y7 (su h)];exact f
  refine gM 2 ?_ ?_<;>intro q W
  ·refine gH 6 ?_;obtain⟨a2,c2,e2,f⟩:=f.KL (m:=(max 0 (((List.foldl BJ [] ((AO (p.drop 1)).take i)).length:Int)-1)).toNat) (l:=(List.foldl BJ [] ((AO (p.drop 1)).take i))) (k:=0) O om;rw[e2];rw[show(max 0 (((List.foldl BJ [] ((AO (p.drop 1)).take i)).length:Int)-1)).toNat=(List.foldl BJ [] ((AO (p.drop 1)).take i)).length-1 by omega]at f ⊢;refine gG 3 ?_;refine⟨(_,i+1),⟨O,by show some (Value.bool _)=some _;rw[A];rw[show x=[46,46]by simpa using q];rfl,O,O,O,trivial⟩,⟨om,?_⟩,od⟩;rw[v,BJ,Y3 (su h),Y7 (su q),List.dropLast_eq_take];exact f
  refine gG 8 ?_;intro ac ab ae J w f;refine⟨(_,i+1),⟨O,by show some (Value.bool _)=some _;rw[A];rw[G1,show(x==[46])=false by simpa using h,show(x==[46,46])=false by simpa using q];rfl,O,O,O,trivial⟩,⟨om,?_⟩,od⟩;rw[v,BJ,Y3 (su h),Y3 (su q),Yn,Y0];exact f
 have M:i=(AO (p.drop 1)).length:=om
 subst M;rw[GK]at f;obtain⟨ka,kc,rfl,P,_⟩:=f.vS 0;have G:=yr (AO (p.drop 1)) [];rw[qg,show CZ []=0 from O,Yl,Y6]at G;have al:=um (List.foldl BJ [] (AO (p.drop 1)));refine gG 4 (.lk [3,4,38,39] (σ:=Nat) (λj _m=>(40,Ab (j:Nat))::(7,S (Xw ((List.foldl BJ [] (AO (p.drop 1))).take j)))::_m) (λj w=>j<=(List.foldl BJ [] (AO (p.drop 1))).length/\Aa B w I (Ao 9 1 (.slice ka (List.foldl BJ [] (AO (p.drop 1))).length kc) (List.foldl BJ [] (AO (p.drop 1))).length ((List.foldl BJ [] (AO (p.drop 1))).map S)::Ad u ((AO (p.drop 1)).map S) 9::N)) (λj=>(List.foldl BJ [] (AO (p.drop 1))).length-j) 0 ⟨Y5 _,f⟩ ?_);rintro j w ⟨hj,f⟩;refine gN 1 ?_ ?_<;>intro X
 ·obtain⟨x,hx⟩:∃x,(List.foldl BJ [] (AO (p.drop 1)))[j]?=some x:=⟨_,Y2 om⟩
  have F:Xw ((List.foldl BJ [] (AO (p.drop 1))).take (j+1))=Xw ((List.foldl BJ [] (AO (p.drop 1))).take j)++47::x:=by rw[Yv,hx];exact wi _ _
  have ao:(Xw ((List.foldl BJ [] (AO (p.drop 1))).take j)).length+(x.length+1)<=CZ (List.foldl BJ [] (AO (p.drop 1))):=by
   rw[show x.length+1=(47::x).length from O,<-Y0,<-F,wj]
   have:CZ (List.foldl BJ [] (AO (p.drop 1)))=CZ ((List.foldl BJ [] (AO (p.drop 1))).take (j+1))+CZ ((List.foldl BJ [] (AO (p.drop 1))).drop (j+1)):=by rw[<-uC,FA]
   omega
  obtain⟨ag,K,o⟩:∃g rest,ka=some (ad g 0)/\Aa B w I (Ad g ((List.foldl BJ [] (AO (p.drop 1))).map S++rest) 9::Ad u ((AO (p.drop 1)).map S) 9::N):=by
   obtain⟨g,c,rest,hv,_,_,_,_,hs⟩:=f.AF (k:=0) O om;injection hv with R aq ar
   exact⟨g,rest,R,hs⟩
  obtain⟨rfl,o⟩:=o;refine gG 0 (.val (.io O O om om ET A3) O ?_);refine .val (.lo O o (k:=0) O Bq (by rw[Yl];(try rw[Yh]);rw[Ca,Yf (by rw[Ym];omega),Yu,hx];rfl)) O ?_;clear o;refine gG 8 ?_;refine⟨j+1,⟨O,by show some (S _)=some _;rw[F];simp,O,O,O,O,trivial⟩,⟨om,f⟩,om⟩
 refine gG 0 ?_;have s:(List.foldl BJ [] (AO (p.drop 1))).take j=(List.foldl BJ [] (AO (p.drop 1))):=Yk om;have Z:(Xw ((List.foldl BJ [] (AO (p.drop 1))).take j)).length<=CZ (List.foldl BJ [] (AO (p.drop 1))):=by rw[s,wj];exact Y9 _
 refine gM 6 ?_ ?_<;>intro t Y
 ·refine gH 5 (.nil (.ret ?_));refine λ_ E=>E3 E O ?_
  have s:(List.foldl BJ [] (AO (p.drop 1))).take j=(List.foldl BJ [] (AO (p.drop 1))):=Yk om;rw[s];have n:(decide (0<(AO (p.drop 1)).length)&&G1 ((AO (p.drop 1)).getD ((AO (p.drop 1)).length-1) []))=G1 ((AO (p.drop 1)).getLastD []):=by
   have z:=Na (p.drop 1);have C:0<(AO (p.drop 1)).length:=LU.2 z;rw[decide_eq_true C,HH]
   congr 1
   rw[zk,Y5z,Ya]
  have D:p=47::p.drop 1:=by
   cases p with
   | nil=>simp[AW]at d
   | cons a b=>simp[AW]at d;rw[d.2];rfl
  have r:Dc p=Xw (List.foldl BJ [] (AO (p.drop 1)))++(if G1 ((AO (p.drop 1)).getLastD [])||(List.foldl BJ [] (AO (p.drop 1))).length==0 then[47]else[]):=by rw[D,Dc,Y7 O];rfl
  refine⟨_,O,?_,f.y 0 2⟩;rw[r];rw[Y7 (by rw[<-n];simpa using t)]
 refine gH 2 (.nil (.ret ?_));refine λ_ E=>E3 E O ?_
 have s:(List.foldl BJ [] (AO (p.drop 1))).take j=(List.foldl BJ [] (AO (p.drop 1))):=Yk om;rw[s];have n:(decide (0<(AO (p.drop 1)).length)&&G1 ((AO (p.drop 1)).getD ((AO (p.drop 1)).length-1) []))=G1 ((AO (p.drop 1)).getLastD []):=by
  have z:=Na (p.drop 1);have C:0<(AO (p.drop 1)).length:=LU.2 z;rw[decide_eq_true C,HH]
  congr 1
  rw[zk,Y5z,Ya]
 have D:p=47::p.drop 1:=by
  cases p with
  | nil=>simp[AW]at d
  | cons a b=>simp[AW]at d;rw[d.2];rfl
 have r:Dc p=Xw (List.foldl BJ [] (AO (p.drop 1)))++(if G1 ((AO (p.drop 1)).getLastD [])||(List.foldl BJ [] (AO (p.drop 1))).length==0 then[47]else[]):=by rw[D,Dc,Y7 O];rfl
 refine⟨_,O,?_,f.y 0 2⟩;rw[r];rw[Y3 (by rw[<-n,qO];simpa using t),Yx]
theorem OX(n:Nat)(h:n<=65535):(Go.Lib.decDigits n).length<=5:=by
 rw[Go.Lib.decDigits_length];have step:∀k m,m<10^(k+1)->Go.Lib.nDigits m<=k+1:=by
  intro k
  induction k with
  | zero=>intro m b;rw[Go.Lib.nDigits_small (su b)];exact Y9 _
  | succ k c =>
   intro m b
   by_cases a:m<10
   ·rw[Go.Lib.nDigits_small a];omega
   ·rw[Go.Lib.nDigits_big a]
    have:=c (m/10) (by rw[LX]at b;omega)
    omega
 exact step 4 n om
theorem Xuh(u:U)(j:QN u)(d:AJ I)(N:La)(a:Aa B w I N):
  Ce B I N 340 [.agg #[S u.S8,S u.host,Ab (u.port:Nat),S u.path,S u.query,.bool u.ask]] w (S (jQ u)):=by
 refine gG 2 ?_;intro b1 w a;obtain⟨f,g,c,h,i⟩:=j;have e:=OX u.port c;refine gN 10 ?_ ?_<;>intro b
 ·refine gE 3 (xL _ c d) ?_;intro w a;refine gG 5 (⟨?_,a.s⟩);rw[jQ,Y3 om];simp[Yg]
 refine gG 2 (⟨?_,a.s⟩);rw[jQ,Y7 om];simp[Yg]
theorem MF(u:U)(g:QN u):(jQ u).length<=3000000:=by
 obtain⟨c,d,b,e,f⟩:=g;have a:=OX u.port b;unfold jQ;split<;>simp only[Y0,Y4,Yi]<;>omega
theorem wo(u:U)(c:QN u)(d:AJ I)(N:La)(b:Aa B w I N):
  Ce B I N 253 [.agg #[S u.S8,S u.host,Ab (u.port:Nat),S u.path,S u.query,.bool u.ask]] w (S (Hi u)):=by
 refine gG 2 ?_;intro b1 w b;have e:=MF u c;obtain⟨f,g,j,h,i⟩:=id c;refine gD [0] [] [0,2,3,1,4,5] ?_;intro w b;refine gE 3 (Xuh u c d) ?_;intro w b;refine gN 4 ?_ ?_<;>intro a
 ·refine gG 8 (⟨?_,b.s⟩);rw[Hi,Y7 a];simp[Yg]
 refine gG 2 (⟨?_,b.s⟩);rw[Hi,Y3 (nB a),Yx]
theorem RC(s a:Lu):(Go.Lib.cut s a).1.length<=s.length/\(Go.Lib.cut s a).2.1.length<=s.length:=by
 unfold Go.Lib.cut;split
 ·simp only[Yj,Y6];omega
 ·simp
theorem Qb(s:Lu)(j:s.length<=1000000)(f:AJ I)(N:La)(g:Aa B w I N):Calls prog 18 #[S s,S B0] w (AY λv w'=>∃a b ok,v=.tuple #[S a,S b,.bool ok]/\gV s=(if ok=true/\(low a=E0\/low a=QX)then some (low a,b)else none)/\a.length<=s.length/\b.length<=s.length/\Aa B w' I N) :=
 (Xrj s j f N g).mono λe w' i=>by
  obtain⟨v,rfl,rfl,h⟩:=i;obtain⟨c,d⟩:=RC s B0;exact⟨_,O,_,_,_,O,M9 s,c,d,h⟩
theorem SK{s t:Lu}(h:F_ s=some t):t.length<=s.length:=by
 unfold F_ at h;split at h
 ·exact Xwu s t h
 ·cases h
theorem Xwv(s:Lu)(g:s.length<=1000000)(c:AJ I)(N:La)(d:Aa B w I N):Calls prog 338 #[S s] w (AY λv w'=>∃a b,v=.tuple #[S a,Ab b]/\(match F_ s with|none=>a=[]/\b=15|some t=>a=t/\b=0)/\a.length<=s.length/\Aa B w' I N) :=
 (MB s g c.iZ N d).mono λe w' f=>by
  obtain⟨v,rfl,rfl,h⟩:=f;cases i:F_ s with
  | none=>exact⟨_,O,_,_,O,⟨O,O⟩,Y5 _,h⟩
  | some t=>exact⟨_,O,_,_,O,⟨O,O⟩,SK i,h⟩
theorem mx(s a:Lu)(f:s.length<=1000000)(w:Wo):Calls prog 337 #[S s,S a] w (AY λv w'=>(∃c:Nat,v=.tuple #[Ab (c:Nat),.bool (Gz s)]/\c<=65535/\(Gz s=true->c=Q0 s a))/\w=w') :=
 (Zf s a f w).mono λe w' d=>by
  obtain⟨v,rfl,rfl,h⟩:=d;refine⟨_,O,?_,h⟩;cases b:Gz s with
  | false=>exact⟨0,O,de,λe=>by cases e⟩
  | true =>
   refine⟨Q0 s a,O,?_,λ_=>rfl⟩;unfold Q0;split
   ·decide
   ·unfold Gz at b;simp only[Yb,decide_eq_true_eq]at b
    exact b.2
theorem tQ(a s:Lu):(BD a s).length<=s.length:=by
 have:=Ye List.length (gO a s)
 rw[Y0]at this;omega
theorem jK(a s:Lu):(Xu a s).length<=s.length:=by
 have:=Ye List.length (gO a s)
 rw[Y0]at this;omega
theorem zM:gp [47,63,35,58]:=λj b h=>by
 match j,h with
 | 0,h=>cases h;decide
 | 1,h=>cases h;decide
 | 2,h=>cases h;decide
 | 3,h=>cases h;decide
 | _+4,h=>simp at h
theorem zL:gp [47,63,35]:=λj b h=>by
 match j,h with
 | 0,h=>cases h;decide
 | 1,h=>cases h;decide
 | 2,h=>cases h;decide
 | _+3,h=>simp at h
theorem Xxb(r:Lu):AW r [58]=true↔r.take 1=[58]:=by
 cases r with
 | nil=>simp[AW]
 | cons a b=>simp[AW];intro _;omega
theorem wU(s:Lu)(hl:s.length<=1000000)(z:AJ I)(N:La)(a:Aa B w I N):
  Ce B I N 252 [S s] w (.tuple #[.agg (uc (pU s).1).toArray,Ab ((pU s).2:Nat)]):=by
 refine gG 5 ?_;intro W w a;refine gN 0 ?_ ?_<;>intro L
 ·refine gH 3 ?_;intro w a;exact gG 0 ⟨by rw[pU,Y7 om];rfl,a.s⟩
 refine gF 1 (Qb s om z) ?_;rintro _ w ⟨v,f,ok,rfl,j,V,U,a⟩;refine gE 8 (Xpl v om) ?_;intro w a;refine gM 11 ?_ ?_<;>intro k A
 ·refine gH 3 ?_;intro w a;refine gG 0 (⟨?_,a.s⟩);rw[pU,Y3 om,j,Y3]
  ·rfl
  ·rintro⟨Y,Z⟩;rw[Y]at k;rcases Z with h|h<;>rw[h]at k<;>simp[E0,QX]at k
 refine gG 0 ?_;have F:ok=true/\(low v=E0\/low v=QX):=A;rw[Y7 F]at j;refine gH 5 ?_;intro X w a;refine gE 0 (OU f _ om zM de de) ?_;intro w a;refine gH 8 ?_;intro w a;refine gE 0 (Xpl _ (by have:=tQ [47,63,35,58] f;omega)) ?_;intro w a;refine gH 4 ?_;intro w a;refine gC 0 (XA _ _) ?_;rintro _ _ ⟨rfl,rfl⟩;refine gM 1 ?_ ?_<;>intro i M
 ·refine gH 3 ?_;intro w a;refine gG 0 (⟨?_,a.s⟩);rw[pU,Y3 om,j];simp only
  rw[Oe,Y3 (su i)];rfl
 refine .skip (.ck [2,7] (σ:=Nat×Lu) (λ(d,r) _m=>(5,S r)::_m) (λ(d,r) w=>pU s=IP (low v) (low (BD [47,63,35,58] f)) d r/\d<=65535/\r.length<=2000/\Aa B w I (Ad X [S (low v),S (low (BD [47,63,35,58] f)),Ab (d:Nat),S [],S [],.bool false] 362::Ad W [S [],S [],Ab 0,S [],S [],.bool false] 362::N)) ?_ ?_)
 ·refine gC 1 (pq _ [58] _ (by have:=jK [47,63,35,58] f;omega) de) ?_;rintro _ _ ⟨rfl,rfl⟩;refine gM 0 ?_ ?_<;>intro l P
  ·refine gG 0 ?_;have y:=(Xxb _).1 l;have aa:=jK [47,63,35,58] f;have ab:1<=(Xu [47,63,35,58] f).length:=by
    have:=Ye List.length y
    rw[Yj,Y4,Yi]at this;omega
   refine gE 3 (OU ((Xu [47,63,35,58] f).drop 1) [47,63,35] (by rw[Y6];have:=jK [47,63,35,58] f;omega) zL de de) ?_;intro w a;refine gC 7 (mx _ (low v) (by have:=tQ [47,63,35] ((Xu [47,63,35,58] f).drop 1);have:=jK [47,63,35,58] f;rw[Y6]at *;omega) _) ?_;rintro _ _ ⟨⟨pn,rfl,G,K⟩,rfl⟩;refine gG 8 ?_;intro w a;refine gM 0 ?_ ?_<;>intro o Q
   ·refine gH 3 ?_;intro w a;refine gG 0 (⟨?_,a.s⟩);rw[pU,Y3 om,j];simp only
    rw[Oe,Y7 (su i),hY,Y7 y,Y3 (su o)];rfl
   refine gG 0 ?_;have p:Gz (BD [47,63,35] ((Xu [47,63,35,58] f).drop 1))=true:=su o
   have J:=K p;refine Eo (_,_) O ⟨?_,G,?_,a⟩
   ·rw[pU,Y3 om,j];simp only
    rw[Oe,Y7 (su i),hY,Y7 y,Y7 p,J]
   ·have:=jK [47,63,35] ((Xu [47,63,35,58] f).drop 1)
    rw[Y6]at this;omega
  refine gG 0 (Eo (0,_) O ⟨?_,de,?_,a⟩)
  ·rw[pU,Y3 om,j];simp only
   rw[Oe,Y7 (su i),hY,Y3 (λe=>by rw[(Xxb _).2 e]at l;cases l)]
  ·have:=jK [47,63,35,58] f
   omega
 rintro⟨d,r⟩ w ⟨n,H,ac,a⟩;refine gE 1 (sK r 63 om z) ?_;intro w a;refine gF 8 (Xwv _ (by have:=tQ [63] r;omega) z) ?_;rintro _ w ⟨p1,e1,rfl,b,R,a⟩;refine gN 7 ?_ ?_<;>intro C
 ·refine gH 4 ?_;intro w a;refine gG 0 (⟨?_,a.s⟩);rw[n,IP];cases m:F_ (BD [63] r)with
  | none=>rw[m]at b;rw[b.2];rfl
  | some t=>rw[m]at b;exact Aw b.2 C
 refine gF 1 (Xwv _ (by have:=jK [63] r;rw[Y6];omega) z) ?_;rintro _ w ⟨q1,e2,rfl,c,T,a⟩;refine gG 8 ?_;intro w a;refine gN 0 ?_ ?_<;>intro D
 ·refine gH 4 ?_;intro w a;refine gG 0 (⟨?_,a.s⟩);rw[n,IP];cases m:F_ (BD [63] r)with
  | none=>rw[m]at b;have:=b.2;omega
  | some t =>
   cases u:F_ ((Xu [63] r).drop 1)with
   | none=>rw[u]at c;rw[c.2];rfl
   | some t=>rw[u]at c;exact Aw c.2 D
 refine gE 1 (Uj p1 (by have:=tQ [63] r;omega) z) ?_;intro w a;refine gG 8 ?_;intro w a;refine gM 0 ?_ ?_<;>intro g E
 ·refine gH 5 ?_;intro w a;refine gG 0 (⟨?_,a.s⟩);rw[n,IP];cases m:F_ (BD [63] r)with
  | none=>rw[m]at b;have:=b.2;omega
  | some t =>
   cases u:F_ ((Xu [63] r).drop 1)with
   | none=>rw[u]at c;have:=c.2;omega
   | some q =>
    rw[m]at b;rw[u]at c;obtain⟨rfl,_⟩:=b;obtain⟨rfl,_⟩:=c;have x:(if p1=[]then[47]else Dc p1)=[47]:=Y7 (by have:=Wq p1;rw[g]at this;simpa using this.symm);show _=Value.tuple #[.agg #[S (low v),S (low (BD [47,63,35,58] f)),Ab (d:Nat),S (if p1=[]then[47]else Dc p1),S q1,.bool (!(Xu [63] r).isEmpty)],Ab 0]
    rw[x]
    done
 refine gH 3 ?_;intro w a;refine gG 0 (⟨?_,a.s⟩);rw[n,IP];cases m:F_ (BD [63] r)with
 | none=>rw[m]at b;have:=b.2;omega
 | some t =>
  cases u:F_ ((Xu [63] r).drop 1)with
  | none=>rw[u]at c;have:=c.2;omega
  | some q =>
   rw[m]at b;rw[u]at c;obtain⟨rfl,_⟩:=b;obtain⟨rfl,_⟩:=c;have x:(if p1=[]then[47]else Dc p1)=Dc p1:=Y3 (λe=>by rw[e]at g;simp[Dc]at g);show _=Value.tuple #[.agg #[S (low v),S (low (BD [47,63,35,58] f)),Ab (d:Nat),S (if p1=[]then[47]else Dc p1),S q1,.bool (!(Xu [63] r).isEmpty)],Ab 0]
   rw[x]
   done
theorem wm(s:Lu)(d:s.length<=1000000)(b:AJ I)(N:La)(a:Aa B w I N):
  Ce B I N 348 [S s] w (.tuple #[S (nU s).1,Ab ((nU s).2:Nat)]):=by
 refine gE 3 (wU s d b) ?_;intro w a;refine gG 8 ?_;intro e w a;refine gN 0 ?_ ?_<;>intro c
 ·refine gG 3 (⟨?_,a.s⟩);rw[nU,Y3 om]
  done
 refine gE 1 (wo _ (p4 s) b) ?_;intro w a;refine gG 2 (⟨?_,a.s⟩);rw[nU,Y7 om];rfl
end Go.Proofs.W9
namespace Ul
open Pc Gk
theorem aE{r t:Lu}{v:Ui}(h:told r=some v):told (r++t)=some v:=by
 match r,h with
 | a::b::_,h=>exact h
 | [_],h=>simp[told]at h
 | [],h=>simp[told]at h
theorem YN:∀(n:Nat) (a b d:Lu),a.length<=n->DN a=some d->DN (a++b)=(DN b).map (d++·):=by
 intro n
 induction n with
 | zero =>
  intro a b d f h
  have:=Yc (qT.1 f)
  subst this;rw[TG]at h;injection h with h;subst h
  rw[CS];cases i:DN b<;>simp
 | succ n k =>
  intro a b d f h;cases a with
  | nil =>
   rw[TG]at h;injection h with h;subst h
   cases i:DN b<;>simp[i]
  | cons c r =>
   simp only[Y4]at f
   rw[QH]at h;rw[DV,QH]
   by_cases j:c=37
   ·rw[Y7 j]at h ⊢;cases e:told r with
    | none=>rw[e]at h;cases h
    | some v =>
     rw[e]at h;rw[aE e];simp only at h ⊢
     have l:=gX e;obtain⟨u,g,rfl⟩:=Gf.1 h;rw[oM l,k (r.drop 2) b u (by rw[Y6];omega) g,zJ]
     congr 1
     funext x
     simp
   ·rw[Y3 j]at h ⊢;obtain⟨u,g,rfl⟩:=Gf.1 h;rw[k r b u om g,zJ];rfl
def Fix(s:Lu):Prop:=DN s=some s
theorem Fix.nil:Fix []:=TG
theorem Fix.app{a b:Lu}(h:Fix a)(k:Fix b):Fix (a++b):=by
 unfold Fix at *;rw[YN a.length a b a (Y9 _) h,k];rfl
theorem Fix.cons{c:Ui}{b:Lu}(h:c≠37)(k:Fix b):Fix (c::b):=by
 unfold Fix at *;rw[QH,Y3 h,k];rfl
theorem Zd(v:Ui)(u:Lu):told (K5 (v.toNat/16)::K5 (v.toNat%16)::u)=some v:=by
 have:=Xj (p:=λv=>decide (0<=Dw (K5 (v.toNat/16)))&&decide (0<=Dw (K5 (v.toNat%16)))&&(byteOf (K5 (v.toNat/16)) (K5 (v.toNat%16))==v)) dk v
 simp only[Yb,decide_eq_true_eq,beq_iff_eq]at this
 show(if Dw (K5 (v.toNat/16))<0\/Dw (K5 (v.toNat%16))<0 then none else some (byteOf (K5 (v.toNat/16)) (K5 (v.toNat%16))))=some v
 rw[Y3 om,this.2]
theorem Xgi{v:Ui}(h:plain v=true):v≠37:=λe=>by subst e;revert h;decide
theorem O2(v:Ui):Fix (El v):=by
 unfold El
 by_cases h:plain v=true
 ·rw[Y7 h];exact Fix.cons (Xgi h) Fix.nil
 ·rw[Y3 h];unfold Fix K8;rw[QH,Y7 O,Zd];simp only[Em,EW,TG,dC,Yx]
  unfold El;rw[Y3 h];rfl
theorem Xwt:∀(n:Nat) (s t:Lu),s.length<=n->DN s=some t->Fix t:=by
 intro n
 induction n with
 | zero =>
  intro s t b h
  have:=Yc (qT.1 b)
  subst this;rw[TG]at h;injection h with h;subst h;exact Fix.nil
 | succ n f =>
  intro s t b h;cases s with
  | nil=>rw[TG]at h;injection h with h;subst h;exact Fix.nil
  | cons c r =>
   simp only[Y4]at b
   rw[QH]at h
   by_cases a:c=37
   ·rw[Y7 a]at h;cases e:told r with
    | none=>rw[e]at h;cases h
    | some v =>
     rw[e]at h;simp only at h
     obtain⟨u,d,rfl⟩:=Gf.1 h;exact(O2 v).app (f _ u (by rw[Y6];omega) d)
   ·rw[Y3 a]at h;obtain⟨u,d,rfl⟩:=Gf.1 h;exact Fix.cons a (f r u om d)
theorem Xot:∀(n:Nat) (a b:Lu),a.length<=n->Fix (a++47::b)->Fix a/\Fix b:=by
 intro n
 induction n with
 | zero =>
  intro a b d h
  have:=Yc (qT.1 d)
  subst this;refine⟨Fix.nil,?_⟩;unfold Fix at h ⊢;rw[CS,QH,Y3 de]at h;obtain⟨u,f,e⟩:=Gf.1 h;injection e with _ e
  rw[f,e]
 | succ n l =>
  intro a b d h;cases a with
  | nil=>exact l [] b sz h
  | cons c r =>
   simp only[Y4]at d
   unfold Fix at h;rw[DV,QH]at h
   by_cases k:c=37
   ·subst k;rw[Y7 O]at h
    match r,d,h with
    | [],_,h =>
     exfalso
     cases b with
     | nil=>simp[told]at h
     | cons x b=>simp[told,show Dw 47=-1 from by decide]at h
    | [x],_,h =>
     exfalso
     simp[told,show Dw 47=-1 from by decide]at h
    | x::y::r,d,h =>
     cases m:told ((x::y::r)++47::b)with
     | none=>rw[m]at h;cases h
     | some v =>
      rw[m]at h;simp only[DV,Em,EW]at h
      obtain⟨u,f,e⟩:=Gf.1 h
      by_cases g:plain v=true
      ·exfalso
       unfold El at e;rw[Y7 g]at e;injection e with e _
       exact Xgi g e
      ·unfold El at e;rw[Y3 g]at e;simp only[K8,DV,CS,List.cons.injEq,true_and]at e
       obtain⟨o,p,q⟩:=e;subst q;obtain⟨i,j⟩:=l r b (by simp only[Y4]at d;omega) f;refine⟨?_,j⟩
       have:=(O2 v).app i
       unfold El at this;rw[Y3 g]at this;simp only[K8,o,p,DV,CS]at this
       exact this
   ·rw[Y3 k]at h;obtain⟨u,f,e⟩:=Gf.1 h;injection e with _ e
    subst e;obtain⟨i,j⟩:=l r b om f;exact⟨Fix.cons k i,j⟩
theorem ZU(s:Lu):(∀x∈s,x≠47)/\AO s=[s]\/∃a b,s=a++47::b/\(∀x∈a,x≠47)/\AO s=a::AO b:=by
 induction s with
 | nil=>exact .inl ⟨λx h=>by simp at h,O⟩
 | cons c r j =>
  by_cases g:c=47
  ·subst g;exact .inr ⟨[],r,O,λx h=>by simp at h,by rw[AO,Y7 O]⟩
  ·rcases j with⟨f,i⟩|⟨a,b,rfl,f,i⟩
   ·have d:∀x∈c::r,x≠47:=λx hx=>by
     rcases Ys.1 hx with e|e
     ·subst e;exact g
     ·exact f x e
    exact .inl ⟨d,p5 _ d⟩
   ·have d:∀x∈c::a,x≠47:=λx hx=>by
     rcases Ys.1 hx with e|e
     ·subst e;exact g
     ·exact f x e
    exact .inr ⟨c::a,b,O,d,uz (c::a) b d⟩
structure gr(p:Ui->Bool)(x:Lu):Prop where
 fix:Fix x
 no:∀c∈x,c≠47
 all:x.all p=true
theorem Tf{p:Ui->Bool}:∀(n:Nat) (s:Lu),s.length<=n->Fix s->s.all p=true->∀x∈AO s,gr p x:=by
 intro n
 induction n with
 | zero =>
  intro s i h d x hx
  have:=Yc (qT.1 i)
  subst this;simp[AO]at hx
  subst hx;exact⟨Fix.nil,λc h=>by simp at h,O⟩
 | succ n l =>
  intro s i h d x hx;rcases ZU s with⟨f,g⟩|⟨a,b,rfl,f,g⟩
  ·rw[g]at hx;simp at hx
   subst hx;exact⟨h,f,d⟩
  ·rw[g]at hx;obtain⟨j,k⟩:=Xot a.length a b (Y9 _) h;rw[iR,Yb,EX,Yb]at d;rcases Ys.1 hx with e|e
   ·subst e;exact⟨j,f,d.1⟩
   ·refine l b ?_ k d.2.2 x e;simp only[Y0,Y4]at i;omega
theorem Xwe{Q:Lu->Prop}:∀(l k:List Lu),(∀x∈l,Q x)->(∀x∈k,Q x/\G1 x=false)->∀x∈l.foldl BJ k,Q x/\G1 x=false
 | [],k,_,c,x,hx=>c x hx
 | a::l,k,d,c,x,hx=>by
  rw[JS]at hx;refine Xwe l (BJ k a) (λx hx=>d x (by simp[hx])) (λy b=>?_) x hx;unfold BJ at b;split at b
  ·exact c y b
  ·rename_i f
   split at b
   ·exact c y (List.dropLast_subset _ b)
   ·rename_i g
    rcases Yt.1 b with e|e
    ·exact c y e
    ·simp at e
     subst e;refine⟨d _ sz,?_⟩;unfold G1;simp[f,g]
theorem Xwd:∀(l k:List Lu),(∀x∈l,G1 x=false)->l.foldl BJ k=k++l
 | [],k,_=>by simp
 | a::l,k,h=>by
  have b:=h a sz;unfold G1 at b;simp only[G3,beq_eq_false_iff_ne]at b
  rw[JS,Xwd l _ (λx hx=>h x (by simp[hx])),BJ,Y3 b.1,Y3 b.2,Yg];rfl
theorem Xh6:∀(k:List Lu) (e:Lu),(∀x∈k,∀c∈x,c≠47)->(∀c∈e,c≠47)->Xw k++47::e=47::((k.map (·++[47])).flatten++e)/\AO ((k.map (·++[47])).flatten++e)=k++[e]
 | [],e,_,b=>⟨by simp[Xw],by simpa using p5 e b⟩
 | a::k,e,d,b=>by
  obtain⟨f,g⟩:=Xh6 k e (λx hx=>d x (by simp[hx])) b;refine⟨?_,?_⟩
  ·have:Xw (a::k)=47::a++Xw k:=by simp[Xw]
   rw[this,Yg,f]
   simp
  ·rw[Yw,Gg,Yg,Yg,DV,CS,uz a _ (d a sz),g];rfl
theorem Xd4(k:List Lu)(e:Lu)(j:∀x∈k,∀c∈x,c≠47)(i:∀c∈e,c≠47)(b:∀x∈k,G1 x=false)(a:G1 e=false):Dc (Xw k++47::e)=Xw k++47::e:=by
 obtain⟨d,f⟩:=Xh6 k e j i;have g:∀x∈k++[e],G1 x=false:=λx hx=>by
  rcases Yt.1 hx with h|h
  ·exact b x h
  ·simp at h;subst h;exact a
 rw[d,Dc,Y7 O,f,Xwd _ _ g,CS,<-d,wi]
 have:((k++[e]).getLastD [])=e:=by simp[zk]
 rw[this,a]
 simp
theorem Xh4{p:Ui->Bool}(b:p 47=true):∀(k:List Lu),(∀x∈k,x.all p=true)->(Xw k).all p=true
 | [],_=>rfl
 | a::k,h=>by
  have:Xw (a::k)=47::a++Xw k:=by simp[Xw]
  rw[this,iR,EX,b,h a sz,Xh4 b k (λx hx=>h x (by simp[hx]))];rfl
theorem Xh5:∀(k:List Lu),(∀x∈k,Fix x)->Fix (Xw k)
 | [],_=>Fix.nil
 | a::k,h=>by
  have:Xw (a::k)=47::a++Xw k:=by simp[Xw]
  rw[this];exact(Fix.cons de (h a sz)).app (Xh5 k (λx hx=>h x (by simp[hx])))
theorem RJ{p:Ui->Bool}(d:p 47=true){s:Lu}(u:Fix s)(t:s.all p=true)(j:s.head?=some 47):Dc (Dc s)=Dc s/\Fix (Dc s)/\(Dc s).all p=true/\(Dc s).head?=some 47:=by
 cases s with
 | nil=>cases j
 | cons c r =>
  simp at j
  subst j;have l:Fix r:=(Xot 0 [] r (Y9 _) u).2;rw[EX,Yb]at t;have m:=Tf r.length r (Y9 _) l t.2;have b:=Xwe (Q:=gr p) (AO r) [] m (λx h=>by simp at h);rw[show Dc (47::r)=Xw ((AO r).foldl BJ [])++(if G1 ((AO r).getLastD [])||((AO r).foldl BJ []).length==0 then[47]else[]) from by rw[Dc,Y7 O]];generalize (AO r).foldl BJ []=k at b ⊢;have n:∀c∈([]:Lu),c≠47:=λc h=>by simp at h
  have g:=Xh5 k (λx hx=>(b x hx).1.fix);have f:=Xh4 d k (λx hx=>(b x hx).1.all);split
  ·refine⟨Xd4 k [] (λx hx=>(b x hx).1.no) n (λx hx=>(b x hx).2) O,g.app (Fix.cons de Fix.nil),?_,?_⟩
   ·rw[iR,f,EX,d];rfl
   ·cases k with
    | nil=>rfl
    | cons a k=>rfl
  ·rename_i o
   simp only[I0,not_or,beq_iff_eq]at o
   rw[Yx];obtain⟨i,e,rfl⟩:∃i e,k=i++[e]:=⟨k.dropLast,k.getLast (λh=>o.2 (by rw[h];rfl)),(zh _).symm⟩
   have q:=b e sz;refine⟨?_,g,f,?_⟩
   ·rw[wi];exact Xd4 i e (λx hx=>(b x (by simp[hx])).1.no) q.1.no (λx hx=>(b x (by simp[hx])).2) q.2
   ·cases i with
    | nil=>rfl
    | cons a i=>rfl
theorem fg{p:Ui->Bool}(b:∀v,plain v=true->p v=true)(a:p 37=true)(v:Ui):(El v).all p=true:=by
 unfold El
 by_cases h:plain v=true
 ·rw[Y7 h,EX,b v h];rfl
 ·have hx:=Xj (p:=λv=>plain (K5 (v.toNat/16))&&plain (K5 (v.toNat%16))) dk v;rw[Yb]at hx;rw[Y3 h,K8,EX,a,EX,b _ hx.1,EX,b _ hx.2];rfl
theorem Xws{p:Ui->Bool}(j:∀v,plain v=true->p v=true)(b:p 37=true):∀(n:Nat) (s t:Lu),s.length<=n->s.all p=true->DN s=some t->t.all p=true:=by
 intro n
 induction n with
 | zero =>
  intro s t d a h
  have:=Yc (qT.1 d)
  subst this;rw[TG]at h;injection h with h;subst h;rfl
 | succ n i =>
  intro s t d a h;cases s with
  | nil=>rw[TG]at h;injection h with h;subst h;rfl
  | cons c r =>
   simp only[Y4]at d
   rw[EX,Yb]at a;rw[QH]at h
   by_cases f:c=37
   ·rw[Y7 f]at h;cases g:told r with
    | none=>rw[g]at h;cases h
    | some v =>
     rw[g]at h;simp only at h
     obtain⟨u,e,rfl⟩:=Gf.1 h;rw[iR,fg j b v,i _ u (by rw[Y6];omega) (Dy.2 λx hx=>Dy.1 a.2 x (zo hx)) e];rfl
   ·rw[Y3 f]at h;obtain⟨u,e,rfl⟩:=Gf.1 h;rw[EX,a.1,i r u om a.2 e];rfl
def cZ(c:Ui):Bool:=QQ c&&c !=63
theorem Xgj(v:Ui)(h:plain v=true):cZ v=true:=by
 have:=Xj (p:=λv=>!plain v||cZ v) dk v
 simp only[h,vk,dD]at this
 exact this
theorem YD{p:Ui->Bool}:∀{l:Lu} {x:Ui},x∈l.takeWhile p->p x=true
 | [],_,h=>by simp at h
 | a::l,x,h=>by
  rw[u9]at h;split at h
  ·rename_i b
   rcases Ys.1 h with e|e
   ·subst e;exact b
   ·exact YD e
  ·simp at h
theorem lo_lo(c:Ui):lo (lo c)=lo c:=eq_of_beq (Xj (p:=λc=>lo (lo c)==lo c) dk c)
theorem eV(s:Lu):low (low s)=low s:=by
 unfold low;rw[iU];exact zq λc _=>lo_lo c
theorem ND:∀(n:Nat),val (Go.Lib.decDigits n)=n/\(Go.Lib.decDigits n).all K3=true/\(0<n->(Go.Lib.decDigits n).head?≠some 48)/\Go.Lib.decDigits n≠[]:=by
 have a:∀d,d<10->(UInt8.ofNat (48+d)).toNat=48+d/\K3 (UInt8.ofNat (48+d))=true:=λd c=>by
  have h:=(by decide:∀d:Fin 10,(UInt8.ofNat (48+d.val)).toNat=48+d.val/\K3 (UInt8.ofNat (48+d.val))=true) ⟨d,c⟩
  exact h
 intro n
 induction n using Nat.strongRecOn with
 | _ n j =>
  rw[Go.Lib.decDigits]
  by_cases h:n<10
  ·rw[dif_pos h];obtain⟨b,f⟩:=a n h;refine⟨?_,?_,λk=>?_,by simp⟩
   ·simp only[val,JS,List.foldl_nil,b];omega
   ·rw[EX,f];rfl
   ·simp only[List.head?_cons,Option.some.injEq,ne_eq]
    intro e;rw[e]at b
    have:(48:Ui).toNat=48:=rfl
    omega
  ·rw[dif_neg h];obtain⟨b,f⟩:=a (n%10) om;obtain⟨g,i,i3,i4⟩:=j (n/10) om;refine⟨?_,?_,λ_=>?_,by simp⟩
   ·rw[P7,g,b];omega
   ·rw[iR,i,EX,f];rfl
   ·rw[List.head?_append];cases c:(Go.Lib.decDigits (n/10)).head? with
    | none=>exact Aw (List.head?_eq_none_iff.1 c) i4
    | some x =>
     have:=i3 om
     rw[c]at this;exact this
structure Good(u:U):Prop where
 S8:u.S8=E0\/u.S8=QX
 host:TL u.host=true/\low u.host=u.host
 port:u.port<=65535/\u.port≠KB u.S8
 path:Dc u.path=u.path/\Fix u.path/\u.path.all cZ=true/\u.path.head?=some 47
 query:Fix u.query/\u.query.all QQ=true/\(u.ask=false->u.query=[])
theorem Xqv{g a:Lu}{d:Nat}{r:Lu}(A:g=E0\/g=QX)(B:TL a=true/\low a=a)(C:d<=65535/\d≠KB g)(G:∀c,r.head?=some c->c=47\/c=63\/c=35)(h:(IP g a d r).2=0):Good (IP g a d r).1:=by
 unfold IP at h ⊢;cases i:F_ (BD [63] r)with
 | none=>rw[i]at h;cases h
 | some p =>
  rw[i]at h;cases l:F_ ((Xu [63] r).drop 1)with
  | none=>rw[l]at h;cases h
  | some q =>
   simp only
   have b:(BD [63] r).all QQ=true/\DN (BD [63] r)=some p:=by
    unfold F_ at i;split at i
    ·rename_i e;exact⟨e,i⟩
    ·cases i
   have f:((Xu [63] r).drop 1).all QQ=true/\DN ((Xu [63] r).drop 1)=some q:=by
    unfold F_ at l;split at l
    ·rename_i e;exact⟨e,l⟩
    ·cases l
   have m:(BD [63] r).all cZ=true:=by
    rw[Dy];intro x hx;unfold cZ;rw[Dy.1 b.1 x hx,HH,bne_iff_ne];intro e;subst e
    have:=YD hx
    simp at this
   have t:Fix p:=Xwt _ _ _ (Y9 _) b.2;have o:p.all cZ=true:=Xws Xgj de _ _ _ (Y9 _) m b.2;have y:Fix q:=Xwt _ _ _ (Y9 _) f.2;have w:q.all QQ=true:=Xws (λv H=>by have:=Xgj v H;unfold cZ at this;rw[Yb]at this;exact this.1) de _ _ _ (Y9 _) f.1 f.2;refine⟨A,B,C,?_,y,w,λD=>?_⟩
   ·show Dc (if p=[]then[47]else Dc p)=_/\Fix (if p=[]then[47]else Dc p)/\(if p=[]then[47]else Dc p).all cZ=true/\(if p=[]then[47]else Dc p).head?=some 47
    by_cases e:p=[]
    ·rw[Y7 e];exact⟨(by decide:Dc [47]=[47]),Fix.cons de Fix.nil,(by decide:([47]:Lu).all cZ=true),O⟩
    ·rw[Y3 e];refine RJ de t o ?_
     -- the Aad first byte
     cases n:BD [63] r with
     | nil =>
      rw[n,TG]at b;exact Aw (Option.some.inj b.2).symm e
     | cons c s =>
      rw[n]at b;have E:r.head?=some c:=by
       have:=gO [63] r
       rw[n]at this;rw[<-this];rfl
      have k:=Dy.1 m c (by rw[n];simp);rcases G c E with j|j|j
      ·subst j;have z:=b.2;rw[QH,Y3 de]at z;obtain⟨u,_,rfl⟩:=Gf.1 z;rfl
      ·subst j;exact Aw k de
      ·subst j;exact Aw k de
   ·have F:Xu [63] r=[]:=su D
    rw[F,o0,TG]at f;exact(Option.some.inj f.2).symm
theorem xf{BF s:Lu}{c:Ui}(h:(Xu BF s).head?=some c):BF.contains c=true:=by
 unfold Xu at h
 have:=List.head?_dropWhile_not (λc=>!BF.contains c) s
 rw[h]at this;simpa using this
theorem fm{s:Lu}(h:(pU s).2=0):Good (pU s).1:=by
 unfold pU at h ⊢
 by_cases q:2000<s.length
 ·rw[Y7 q]at h;cases h
 ·rw[Y3 q]at h ⊢;cases d:gV s with
  | none=>rw[d]at h;cases h
  | some x =>
   obtain⟨j,r⟩:=x;rw[d]at h;have g:j=E0\/j=QX:=by
    unfold gV at d;split at d
    ·injection d with d;injection d with m _;exact .inl m.symm
    ·split at d
     ·injection d with d;injection d with m _;exact .inr m.symm
     ·cases d
   simp only at h ⊢
   by_cases o:TL (Oe r)=true
   ·rw[Y7 o]at h ⊢;have k:TL (Oe r)=true/\low (Oe r)=Oe r:=⟨o,eV _⟩
    have i:KB j≠0:=by unfold KB;split<;>decide
    unfold hY at h ⊢
    by_cases l:(Xu [47,63,35,58] r).take 1=[58]
    ·rw[Y7 l]at h ⊢
     by_cases p:Gz (BD [47,63,35] ((Xu [47,63,35,58] r).drop 1))=true
     ·rw[Y7 p]at h ⊢;refine Xqv g k ⟨PI p,?_⟩ (λc f=>?_) h
      ·unfold Q0;split
       ·exact λe=>i e.symm
       ·rename_i e;exact e
      ·have:=xf f
       simpa using this
     ·rw[Y3 p]at h;cases h
    ·rw[Y3 l]at h ⊢;refine Xqv g k ⟨de,λe=>i e.symm⟩ (λc f=>?_) h
     have:=xf f
     have n:c≠58:=λe=>by
      subst e;cases hx:Xu [47,63,35,58] r with
      | nil=>rw[hx]at f;cases f
      | cons a b=>rw[hx]at f l;simp at f;subst f;exact l O
     simp only[zt,List.contains_nil,I0,beq_iff_eq,Bool.or_false]at this
     rcases this with e|e|e|e
     ·exact .inl e
     ·exact .inr (.inl e)
     ·exact .inr (.inr e)
     ·exact Aw e n
   ·rw[Y3 o]at h;cases h
def Dd:List UInt8->List (List UInt8)
 | []=>[[]]
 | c::r=>if c=38 then[]::Dd r else match Dd r with
  | []=>[[c]]
  | h::t=>(c::h)::t
theorem k4(s:Lu):Dd s≠[]:=by
 cases s with
 | nil=>simp[Dd]
 | cons c r =>
  simp only[Dd]
  split
  ·simp
  ·split<;>simp
theorem xO:∀(s:Lu),(∀x∈s,x≠38)->Dd s=[s]
 | [],_=>rfl
 | c::r,h=>by
  rw[Dd,Y3 (h c sz),xO r (λx hx=>h x (by simp[hx]))]
theorem OH:∀(a b:Lu),(∀x∈a,x≠38)->Dd (a++38::b)=a::Dd b
 | [],b,_=>by show Dd (38::b)=_;rw[Dd,Y7 O]
 | c::r,b,h=>by
  show Dd (c::(r++38::b))=_
  rw[Dd,Y3 (h c sz),OH r b (λx hx=>h x (by simp[hx]))]
theorem VK{s:Lu}(h:s[i]?=some 38)(c:∀k,k<i->s[k]?≠some 38):Dd s=s.take i::Dd (s.drop (i+1)):=by
 have hi:i<s.length:=(Y1.1 h).1;have e:s=s.take i++38::s.drop (i+1):=by
  conv=>lhs;rw[<-FA i s]
  rw[Yq hi,(Y1.1 h).2]
 conv=>lhs;rw[e]
 refine OH _ _ λx hx d=>?_
 obtain⟨k,a⟩:=GH.1 hx;rw[Q_]at a;split at a
 ·rename_i b
  exact c k b (by rw[a,d])
 ·cases a
theorem Nb:∀(n:Nat) (s:Lu),s.length<=n->Go.Lib.splitK [38] 0 (Go.Lib.count s [38]) s=Dd s:=by
 intro n
 induction n with
 | zero =>
  intro s h
  have:s=[]:=Yc om
  subst this;rfl
 | succ n g =>
  intro s h;have f:=Go.Lib.indexByte_ge s 38
  by_cases e:Go.Lib.indexByte s 38=-1
  ·have hi:Go.Lib.index s [38]=-1:=by rw[Go.Lib.index_one];exact e
   rw[Go.Lib.count_miss hi];refine(xO s λx hx b=>?_).symm;obtain⟨k,a⟩:=GH.1 hx;exact Go.Lib.indexByte_none e k (by rw[a,b])
  ·obtain⟨i,a⟩:∃k:Nat,Go.Lib.indexByte s 38=k:=⟨(Go.Lib.indexByte s 38).toNat,om⟩
   have hi:Go.Lib.index s [38]=i:=by rw[Go.Lib.index_one];exact a
   obtain⟨c,d⟩:=Go.Lib.indexByte_some a;rw[Go.Lib.count_hit sz hi,LW 1,Go.Lib.splitK,hi,Y3 sz,VK c d];show s.take ((i:Int).toNat+0)::Go.Lib.splitK [38] 0 (Go.Lib.count (s.drop (i+1)) [38]) (s.drop ((i:Int).toNat+1))=_
   rw[Yh,DG,g (s.drop (i+1)) (by rw[Y6];omega)]
theorem dG:∀(n:Nat) (s:Lu),s.length<=n->(Dd s).length=Go.Lib.count s [38]+1:=by
 intro n
 induction n with
 | zero =>
  intro s h
  have:s=[]:=Yc om
  subst this;rfl
 | succ n g =>
  intro s h;have f:=Go.Lib.indexByte_ge s 38
  by_cases e:Go.Lib.indexByte s 38=-1
  ·have hi:Go.Lib.index s [38]=-1:=by rw[Go.Lib.index_one];exact e
   rw[Go.Lib.count_miss hi,xO s λx hx b=>?_]
   ·rfl
   ·obtain⟨k,a⟩:=GH.1 hx;exact Go.Lib.indexByte_none e k (by rw[a,b])
  ·obtain⟨i,a⟩:∃k:Nat,Go.Lib.indexByte s 38=k:=⟨(Go.Lib.indexByte s 38).toNat,om⟩
   have hi:Go.Lib.index s [38]=i:=by rw[Go.Lib.index_one];exact a
   obtain⟨c,d⟩:=Go.Lib.indexByte_some a;rw[Go.Lib.count_hit sz hi,VK c d,Y4,g (s.drop (i+1)) (by rw[Y6];omega)];show _=1+Go.Lib.count (s.drop (i+1)) [38]+1
   omega
theorem yA:∀(s:Lu),CZ (Dd s)=s.length+1
 | []=>rfl
 | c::r=>by
  have a:=yA r;simp only[Dd]
  split
  ·simp only[CZ,Yw,VF]at a ⊢
   simp only[Yi,Y4]
   omega
  ·split
   ·rename_i h;exact Aw h (k4 r)
   ·rename_i h
    rw[h]at a;simp only[CZ,Yw,VF,Y4]at a ⊢
    omega
abbrev Ar(s:Lu):Lu:=s.flatMap El
theorem Wy(c:Ui)(s:Lu):Ar (c::s)=El c++Ar s:=rfl
theorem eg(a b:Lu):Ar (a++b)=Ar a++Ar b:=OC ..
theorem fh(c:Ui):1<=(El c).length/\(El c).length<=3:=by unfold El;split<;>simp[K8]
theorem a_:∀(s:Lu),(Ar s).length<=3*s.length
 | []=>Y9 _
 | c::s=>by
  have:=a_ s
  have:=(fh c).2
  rw[Wy,Y0,Y4];omega
def dB(p:Bool)(c:Ui):Ui:=if(p&&c==43)=true then 32 else c
def L7(p:Bool):Nat->List UInt8->Option (List UInt8)
 | 0,_=>some []
 | _+1,[]=>some []
 | f+1,c::r=>if c=37 then match told r with
   | none=>none
   | some v=>(L7 p f (r.drop 2)).map (v::·)
  else(L7 p f r).map (dB p c::·)
def dec(p:Bool)(s:Lu):Option Lu:=L7 p (s.length+1) s
theorem w8(p:Bool):∀(f g:Nat) (s:Lu),s.length<f->s.length<g->L7 p f s=L7 p g s
 | 0,_,_,h,_=>by omega
 | _+1,0,_,_,h=>by omega
 | f+1,g+1,[],_,_=>rfl
 | f+1,g+1,c::r,a,b=>by
  simp only[L7]
  split
  ·cases d:told r with
   | none=>rfl
   | some v =>
    simp only
    have:=gX d
    simp only[Y4]at a b
    rw[w8 p f g (r.drop 2) (by rw[Y6];omega) (by rw[Y6];omega)]
  ·simp only[Y4]at a b
   rw[w8 p f g r om om]
theorem OY(p:Bool):dec p []=some []:=rfl
theorem tw(p:Bool)(c:Ui)(r:Lu):dec p (c::r)=if c=37 then match told r with
   | none=>none
   | some v=>(dec p (r.drop 2)).map (v::·)
  else(dec p r).map (dB p c::·):=by
 unfold dec;simp only[Y4,L7]
 split
 ·cases a:told r with
  | none=>rfl
  | some v =>
   simp only
   have:=gX a
   rw[w8 p (r.length+1) ((r.drop 2).length+1) (r.drop 2) (by rw[Y6];omega) om]
 ·rfl
theorem JY(p:Bool):∀(s t:Lu),dec p s=some t->t.length<=s.length:=by
 intro s
 induction hn:s.length using Nat.strongRecOn generalizing s with
 | _ n d =>
  intro t h;cases s with
  | nil=>rw[OY]at h;injection h with h;subst h;simp
  | cons c r =>
   rw[tw]at h;simp only[Y4]at hn
   split at h
   ·cases b:told r with
    | none=>rw[b]at h;cases h
    | some v =>
     rw[b]at h;simp only at h
     cases a:dec p (r.drop 2)with
     | none=>rw[a]at h;cases h
     | some u =>
      rw[a]at h;simp at h
      subst h
      have:=d (r.drop 2).length (by rw[Y6];omega) (r.drop 2) O u a
      rw[Y6]at this;simp only[Y4]
      omega
   ·cases a:dec p r with
    | none=>rw[a]at h;cases h
    | some u =>
     rw[a]at h;simp at h
     subst h
     have:=d r.length om r O u a
     simp only[Y4]
     omega
abbrev Pq:=Lu×Lu
def Vu(x:List UInt8):Option Pq:=match dec true (BD [61] x)with
 | none=>none
 | some n=>match dec true ((Xu [61] x).drop 1)with
  | none=>none
  | some v=>some (n,v)
def TW:List (List UInt8)->List Pq->List Pq×Nat
 | [],a=>(a,0)
 | x::r,a=>if x=[]then TW r a else if 32<=a.length then([],5)else match Vu x with
  | none=>([],11)
  | some p=>TW r (a++[p])
def Q7(s:Lu):List Pq×Nat:=TW (Dd s) []
def G5(q n v:Lu):Lu:=(if q=[]then[]else q++[38])++(Ar n++61::Ar v)
theorem pS(q n v:Lu):(G5 q n v).length<=q.length+2+3*n.length+3*v.length:=by
 have a:=a_ n;have b:=a_ v;unfold G5;split<;>simp only[Y0,Y4,Yi]<;>omega
def Ow(u:U)(n v:Lu):U:={ u with query:=G5 u.query n v,ask:=true }
end Ul
namespace Xm
open Ul Pc Gk DS
abbrev Px:=Lu×Lu
def MK:List Px:=[([38],[38,97,109,112,59]),([60],[38,108,116,59]),([62],[38,103,116,59]),([34],[38,113,117,111,116,59]),([39],[38,35,51,57,59])]
def em(c:Ui):Lu:=if c=38 then[38,97,109,112,59]else if c=60 then[38,108,116,59]else if c=62 then[38,103,116,59]else if c=34 then[38,113,117,111,116,59]else if c=39 then[38,35,51,57,59]else[c]
def Ep(s:Lu):Lu:=s.flatMap em
def LR(c:Ui)(m s:Lu):Lu:=s.flatMap λx=>if x=c then m else[x]
theorem Xxf(c:Ui)(m a b:Lu):LR c m (a++b)=LR c m a++LR c m b:=OC ..
theorem yZ{c:Ui}{m:Lu}:∀{s:Lu},(∀x∈s,x≠c)->LR c m s=s
 | [],_=>rfl
 | x::s,h=>by
  show(if x=c then m else[x])++LR c m s=x::s
  rw[Y3 (h x sz),yZ (λy a=>h y (by simp[a]))];rfl
theorem Xq3(c:Ui)(m:Lu):∀(n:Nat) (s:Lu),s.length<=n->Go.Lib.replaceK [c] m (Go.Lib.count s [c]) s=LR c m s:=by
 intro n
 induction n with
 | zero =>
  intro s h
  have:s=[]:=Yc om
  subst this;have p:Go.Lib.count ([]:Lu) [c]=0:=Go.Lib.count_miss (by rw[Go.Lib.index_one];rfl);rw[p];rfl
 | succ n r =>
  intro s h;have q:=Go.Lib.indexByte_ge s c
  by_cases e:Go.Lib.indexByte s c=-1
  ·have hi:Go.Lib.index s [c]=-1:=by rw[Go.Lib.index_one];exact e
   rw[Go.Lib.count_miss hi];show s=LR c m s
   refine(yZ λx hx b=>?_).symm;obtain⟨k,a⟩:=GH.1 hx;exact Go.Lib.indexByte_none e k (by rw[a,b])
  ·obtain⟨i,a⟩:∃k:Nat,Go.Lib.indexByte s c=k:=⟨(Go.Lib.indexByte s c).toNat,om⟩
   have hi:Go.Lib.index s [c]=i:=by rw[Go.Lib.index_one];exact a
   obtain⟨j,o⟩:=Go.Lib.indexByte_some a;have f:i<s.length:=(Y1.1 j).1;rw[Go.Lib.count_hit sz hi,LW 1,Go.Lib.replaceK_hit _ _ _ _ i hi];show s.take i++m++Go.Lib.replaceK [c] m (Go.Lib.count (s.drop (i+1)) [c]) (s.drop (i+1))=_
   rw[r (s.drop (i+1)) (by rw[Y6];omega)];have l:s=s.take i++c::s.drop (i+1):=by
    conv=>lhs;rw[<-FA i s]
    rw[Yq f,(Y1.1 j).2]
   conv=>rhs;rw[l,Xxf]
   have g:LR c m (s.take i)=s.take i:=yZ λx hx b=>by
    obtain⟨k,a⟩:=GH.1 hx;rw[Q_]at a;split at a
    ·rename_i d
     exact o k d (by rw[a,b])
    ·cases a
   rw[g,Yg]
   congr 1
   show _=(if c=c then m else[c])++LR c m (s.drop (i+1))
   rw[Y7 O]
theorem Xtz(c:Ui)(m s:Lu)(h:([c]==m)=false):Go.Lib.replaceAll s [c] m=LR c m s:=by
 unfold Go.Lib.replaceAll Go.Lib.replace Go.Lib.replaceNum;rw[h,Y3 de,Y7 (.inl de)];exact Xq3 c m _ s (Y9 _)
def IY(s:Lu)(m:Px):Lu:=LR (m.1.headD 0) m.2 s
theorem Zp(m:Px)(a b:Lu):IY (a++b) m=IY a m++IY b m:=Xxf ..
theorem Xvu:∀(l:List Px) (a b:Lu),l.foldl IY (a++b)=l.foldl IY a++l.foldl IY b
 | [],a,b=>rfl
 | m::l,a,b=>by rw[JS,JS,JS,Zp,Xvu l]
theorem Xvv:∀(l:List Px),l.foldl IY []=[]
 | []=>rfl
 | m::l=>by rw[JS];exact Xvv l
theorem eh(c:Ui):MK.foldl IY [c]=em c :=
 eq_of_beq (Xj (p:=λc=>MK.foldl IY [c]==em c) dk c)
theorem Xvn:∀(s:Lu),MK.foldl IY s=Ep s
 | []=>Xvv MK
 | c::s=>by
  rw[show c::s=[c]++s from O,Xvu,eh,Xvn s];rfl
theorem lD(c:Ui):(em c).length<=6:=by
 have:=Xj (p:=λc=>decide ((em c).length<=6)) dk c
 simpa using this
theorem p7:∀(s:Lu),(Ep s).length<=6*s.length
 | []=>Y9 _
 | c::s=>by
  have a:=lD c;have b:=p7 s;show(em c++Ep s).length<=_
  rw[Y0,Y4];omega
theorem Xxg(c:Ui)(m:Lu)(a:m.length<=6):∀(s:Lu),(LR c m s).length<=6*s.length
 | []=>Y9 _
 | x::s=>by
  have b:=Xxg c m a s;show((if x=c then m else[x])++LR c m s).length<=_
  rw[Y0,Y4];split
  ·omega
  ·show 1+_<=_;omega
theorem Xok:∀{s:Lu},(∀x∈s,x≠38/\x≠60/\x≠62/\x≠34/\x≠39)->Ep s=s
 | [],_=>rfl
 | c::s,h=>by
  obtain⟨a,b,d,e,f⟩:=h c sz;show em c++Ep s=c::s
  rw[Xok (λx hx=>h x (by simp[hx])),em,Y3 a,Y3 b,Y3 d,Y3 e,Y3 f];rfl
def Iw(c:Ui):Bool:=(97<=c&&c<=122)||(65<=c&&c<=90)
def R7(c:Ui):Bool:=Iw c||(48<=c&&c<=57)||c==58||c==45||c==95
def QZ(s:Lu):Bool:=!(s==[])&&Iw (s.headD 0)&&s.all R7
def mI(c:Ui):Bool:=!(c==127||(c<32&&c !=9&&c !=10))
def ic(s:Lu):Bool:=s.all mI
def hN:List Px->List Px->Bool
 | _,[]=>true
 | done,a::r=>(QZ a.1&&ic a.2&&!(done.any λb=>b.1==a.1))&&hN (done++[a]) r
inductive Nd where
 | mk (name:List UInt8) (attrs:List Px) (text:List UInt8) (kids:List Nd)
def Nd.name:Nd->Lu|.mk n _ _ _=>n
def Nd.attrs:Nd->List Px|.mk _ a _ _=>a
def Nd.text:Nd->Lu|.mk _ _ t _=>t
def Nd.kids:Nd->List Nd|.mk _ _ _ k=>k
def bE(f:Int->Nd->Option Int):Int->List Nd->Option Int
 | left,[]=>some left
 | left,k::r=>match f left k with
  | none=>none
  | some l=>bE f l r
def FO:Nat->Int->Nd->Option Int
 | 0,_,_=>none
 | d+1,left,n=>if left-1<0\/QZ n.name=false\/hN [] n.attrs=false\/ic n.text=false\/(n.text≠[]/\n.kids≠[])then none else bE (FO d) (left-1) n.kids
def JJ(a:Px):Lu:=32::(a.1++[61,34]++Ep a.2++[34])
def ES:Nat->Nd->List UInt8
 | 0,_=>[]
 | d+1,n=>60::n.name++(n.attrs.map JJ).flatten++62::Ep n.text++(n.kids.map (ES d)).flatten++60::47::n.name++[62]
end Xm
namespace Gk
open Go
structure HY{β:Type}(D:TypeDesc)(K:β->Va):Prop where
 is:∀b,MapKept.IsKey D (K b)
 inj:∀a b,K a=K b->a=b
theorem CW:HY .string S:=⟨λ_=>trivial,λa b h=>by injection h with h;injection h with h;injection h⟩
theorem K6:HY (.int .i64) Ab:=⟨λ_=>rfl,λa b h=>by injection h⟩
def Iu(K:β->Va)(b:List (β×Va))(a:Array MapEntry):Prop:=a.toList.map (λe=>(e.key,e.val))=b.map λp=>(K p.1,p.2)
def LQ(K:β->Va)(b:Nat)(d:List (β×Va)):X1:=λh=>∃c a,Iu K d c/\h=[(b,.map c a)]
def Lj(I:Im)(K:β->Va)(b:Nat)(d:List (β×Va)):Prop:=∃c a,Iu K d c/\I b=some (.map c a)
theorem Lj.mono{K:β->Va}{kv:List (β×Va)}(h:Lj I K b kv)(f:Le I J):Lj J K b kv:=by
 obtain⟨c,a,d,e⟩:=h;exact⟨c,a,d,f.h _ _ e⟩
section
variable {P:Program} {n:Nat} {K':Bj} {L:AD} {w B:Wo} {ops:Array Oper} {rest:List Oper} {I:Im} {N:La} {β:Type} {K:β->Va} {D:TypeDesc} {kv:List (β×Va)} {k b:Nat} {t kt et ty:TypeId} {x y z:Operand} {pos:String} {af:Array Edge} {d:Nat} {g:Option (Nat×Bool)}
theorem wG[BEq β][LawfulBEq β](f:HY D K)(key:β):∀(a:List (β×Va)) (c:List MapEntry) (i:Nat),c.map (λe=>(e.key,e.val))=a.map (λp=>(K p.1,p.2))->
  (a.lookup key=none/\Instr.findNow D (K key) c i=some none)\/∃j v,a.lookup key=some v/\Instr.findNow D (K key) c i=some (some (j,v))
 | [],[],_,_=>.inl ⟨O,O⟩
 | [],e::c,_,h=>by simp at h
 | p::a,[],_,h=>by simp at h
 | p::a,e::c,i,h=>by
  simp only[Yw,List.cons.injEq,Prod.mk.injEq]at h
  obtain⟨⟨k,n⟩,o⟩:=h;have s:MapKept.IsKey D e.key:=k▸f.is _;obtain⟨r,l,hi⟩:=MapKept.sameNow_of_keys (f.is key) s;cases r with
  | true =>
   have b:=f.inj _ _ ((hi.1 O).trans k);exact .inr ⟨i,p.2,by obtain⟨t,u⟩:=p;simp only at b;subst b;simp[List.lookup,beq_self_eq_true],by simp[Instr.findNow,l,n]⟩
  | false =>
   have d:key≠p.1:=λq=>by have:=hi.2 (by rw[k,q]);cases this
   have m:(p::a).lookup key=a.lookup key:=by obtain⟨t,u⟩:=p;simp only at d;simp[List.lookup,beq_eq_false_iff_ne.2 d]
   rcases wG f key a c (i+1) o with⟨b,g⟩|⟨j,v,b,g⟩
   ·exact .inl ⟨by rw[m];exact b,by simp[Instr.findNow,l,g]⟩
   ·exact .inr ⟨j,v,by rw[m];exact b,by simp[Instr.findNow,l,g]⟩
theorem Xgv[BEq β][LawfulBEq β]{ty:TypeId}{b:Nat}{a:Array MapEntry}{c:Nat}{z:Va}(g:HY D K)(h:w.heap[b]?=some (.map a c))(l:Iu K kv a)(key:β)(k:P.underlying t=some (.map kt et))(f:P.underlying kt=some D)(m:∀w,(zeroValue et).run P w=.ok z w)(ok:Bool):
  (Instr.lookup t (.map (some b)) (K key) ok).run P w=.ok (if ok then .tuple #[(kv.lookup key).getD z,.bool (kv.lookup key).isSome]else(kv.lookup key).getD z) w:=by
 have i:(Instr.checkKey a.isEmpty 10000 kt (K key)).run P w=.ok () w:=MapKept.run_checkKey f (g.is key) _ 9999;rcases wG g key kv a.toList 0 l with⟨d,e⟩|⟨j,v,d,e⟩
 ·simp[Instr.lookup,run_underlying k,MapKept.run_getObj_map h,i,MapKept.run_findKey f e,d,m,Result.andThen]
 ·simp[Instr.lookup,run_underlying k,MapKept.run_getObj_map h,i,MapKept.run_findKey f e,d,Result.andThen]
theorem Aa.Mz(d:Aa B w I N)(h:N[k]?=some (LQ K b kv)):∃c a,Iu K kv c/\w.heap[b]?=some (.map c a):=by
 obtain⟨g,j,f⟩:=d;obtain⟨l,m,i,⟨c,a,e,rfl⟩,_⟩:=j.at_ h;exact⟨c,a,e,(f.perm i).own b _ sz⟩
theorem Lj.now(h:Lj I K b kv)(f:Aa B w I N):∃c a,Iu K kv c/\w.heap[b]?=some (.map c a):=by
 obtain⟨c,a,d,e⟩:=h;obtain⟨g,j,i⟩:=f;exact⟨c,a,d,i.Ha _ _ e⟩
theorem Ex.XS[BEq β][LawfulBEq β]{d:Option Nat}{z:Va}{key:β}(i:HY D K)(m:∃e c,Iu K kv e/\w.heap[b]?=some (.map e c))(hx:Ev n L x (.map (some b)))(p:Ev n L y (K key))(o:P.underlying t=some (.map kt et))(l:P.underlying kt=some D)(q:∀w,(zeroValue et).run P w=.ok z w):
  Ex P n L w ⟨d,.lookup t x y true,ty,pos,af,g⟩ (.tuple #[(kv.lookup key).getD z,.bool (kv.lookup key).isSome]) w:=λa f=>by
 obtain⟨e,c,k,j⟩:=m;have h:=Xgv (ty:=ty) i j k key o l q true;simp[execOp,hx a f,p a f,h]
theorem Ex.Pv[BEq β][LawfulBEq β]{d:Option Nat}{z:Va}{key:β}(i:HY D K)(m:∃e c,Iu K kv e/\w.heap[b]?=some (.map e c))(hx:Ev n L x (.map (some b)))(p:Ev n L y (K key))(o:P.underlying t=some (.map kt et))(l:P.underlying kt=some D)(q:∀w,(zeroValue et).run P w=.ok z w):
  Ex P n L w ⟨d,.lookup t x y false,ty,pos,af,g⟩ ((kv.lookup key).getD z) w:=λa f=>by
 obtain⟨e,c,k,j⟩:=m;have h:=Xgv (ty:=ty) i j k key o l q false;simp[execOp,hx a f,p a f,h]
theorem WL.mkMap(K:β->Va)(e:Aa B w I N)(f:Nat.blt d n=true)(h:∀b w',Aa B w' I (LQ K b []::N)->WL P n ops K' rest ((d,.map (some b))::L) w'):WL P n ops K' (⟨some d,.makeMap t none,ty,pos,af,none⟩::rest) L w:=by
 have c:Aa B (w.alloc (.map #[] 0)) I (LQ K w.heap.size []::N):=(e.alloc (.map #[] 0)).say (k:=0) O λg i=>⟨#[],0,O,i⟩
 refine .val (λa l=>?_) f (h _ _ c);have j:=run_makeMap_plain (P:=P) w t;simp[execOp,j]
theorem Xwq[BEq β][LawfulBEq β]{val:Va}{key:β}(y:HY D K)(F:Aa B w I N)(z:N[k]?=some (LQ K b kv))(s:kv.lookup key=none)(J:P.underlying t=some (.map kt et))(f:P.underlying kt=some D):
  ∃w',(Instr.mapUpdate t (.map (some b)) (K key) val).run P w=.ok () w'/\Aa B w' I (N.set k (LQ K b (kv++[(key,val)]))):=by
 obtain⟨g,H,m⟩:=F;obtain⟨M,Q,C,⟨d,a,q,rfl⟩,i,_⟩:=H.at_ z;have l:=(m.perm C).own b (.map d a) sz;have p:(Instr.checkKey false 10000 kt (K key)).run P w=.ok () w:=MapKept.run_checkKey f (y.is key) _ 9999;have G:Instr.findNow D (K key) d.toList 0=some none:=by
  rcases wG y key kv d.toList 0 q with⟨_,h⟩|⟨j,v,h,_⟩
  ·exact h
  ·rw[s]at h;cases h
 refine⟨{ w with heap:=w.heap.setIfInBounds b (.map (d.push { key:=K key,val:=val,born:=a }) (a+1)) },?_,?_⟩
 ·simp[Instr.mapUpdate,run_underlying J,MapKept.run_getObj_map l,p,MapKept.run_findKey f G,MapKept.run_setObj_map _ l,Result.andThen]
 ·-- the block is written
  have n:Aa B w I (N.set k (own b (.map d a))):=by
   obtain⟨E,x,u⟩:=i (own b (.map d a)) [(b,.map d a)] O;exact⟨E,x,m.perm (C.trans u.symm)⟩
  have e:k<N.length:=(Y1.1 z).1;have L:=n.write (k:=k) (o:=.map d a) (w':={ w with heap:=w.heap.setIfInBounds b (.map (d.push { key:=K key,val:=val,born:=a }) (a+1)) }) (o':=.map (d.push { key:=K key,val:=val,born:=a }) (a+1)) (by simp[e]) O O O (MapKept.heap_set l).1 (λc p=>(MapKept.heap_set l).2 c p);have r:=L.say (k:=k) (A:=own b (.map (d.push { key:=K key,val:=val,born:=a }) (a+1))) (A':=LQ K b (kv++[(key,val)])) (by simp[e]) λg m=>⟨_,_,by
   unfold Iu at q ⊢;rw[oT,Yn,Yn,q];rfl,m⟩
  simpa using r
theorem WL.z_[BEq β][LawfulBEq β]{val:Va}{key:β}(g:HY D K)(i:Aa B w I N)(j:N[k]?=some (LQ K b kv))(hx:Ev n L x (.map (some b)))(o:Ev n L y (K key))(p:Ev n L z val)(f:kv.lookup key=none)(m:P.underlying t=some (.map kt et))(e:P.underlying kt=some D)
  (h:∀w',Aa B w' I (N.set k (LQ K b (kv++[(key,val)])))->WL P n ops K' rest L w'):WL P n ops K' (⟨none,.mapUpdate t x y z,ty,pos,af,none⟩::rest) L w:=by
 obtain⟨w',l,c⟩:=Xwq g i j f m e;refine .st (w':=w') (λa d=>?_) (h _ c);simp[execOp,hx a d,o a d,p a d,l]
theorem WL.Ci[BEq β][LawfulBEq β]{val:Va}{key:β}(g:HY D K)(i:Aa B w I N)(j:N[k]?=some (LQ K b kv))(hx:Ev n L x (.map (some b)))(o:Ev n L y (K key))(p:Ev n L z val)(f:kv.lookup key=none)(m:P.underlying t=some (.map kt et))(e:P.underlying kt=some D)
  (h:∀w',Aa B w' I (N.set k (LQ K b (kv++[(key,val)])))->WL P n ops K' rest L w'):WL P n ops K' (⟨none,.insert t x y z,ty,pos,af,none⟩::rest) L w:=by
 obtain⟨w',l,c⟩:=Xwq g i j f m e;refine .st (w':=w') (λa d=>?_) (h _ c);simp[execOp,hx a d,o a d,p a d,l]
theorem Aa.HL(m:Aa B w I N)(i:N[k]?=some (LQ K b kv)):∃J,Le I J/\Lj J K b kv/\Aa B w J (N.eraseIdx k):=by
 have f:k<N.length:=(Y1.1 i).1;obtain⟨⟨⟨c,a⟩,e⟩,d⟩:=m.opened (X:={ x:Array MapEntry×Nat // Iu K kv x.1 }) (T:=λx=>own b (.map x.1.1 x.1.2)) i λg n=>by
  obtain⟨c,a,e,rfl⟩:=n;exact⟨⟨(c,a),e⟩,O⟩
 obtain⟨J,j,l,h⟩:=d.freeze (k:=k) (b:=b) (o:=.map c a) (by simp[f]);rw[oR]at h;exact⟨J,j,⟨c,a,e,l⟩,h⟩
end
open Go.RowKit Go.WideShapes Go.ChangeShapes
def Fk(W:Wo):Im:=λb=>W.heap[b]?
theorem Aar(W:Wo):Aa W W (Fk W) []:=⟨[],O,O,O,O,λ_ _ h=>h,λ_ _ h=>by simp at h,List.nodup_nil,λ_ _ h=>by simp at h⟩
theorem Aa.below{W:Wo}(e:Aa W w I N)(f:Le (Fk W) I):Below W.heap.size W w:=by
 obtain⟨h,_,g⟩:=e;have b:∀k,k<W.heap.size->w.heap[k]?=W.heap[k]?:=λk c=>by
  rw[IZ c];exact g.Ha k _ (f.h k _ (IZ c))
 refine⟨g.os,g.tape,g.output,?_,b⟩;rcases JP W.heap.size with d|d
 ·omega
 ·have a:=b (W.heap.size-1) om;rw[IZ (show W.heap.size-1<W.heap.size by omega)]at a
  have:=(Ij.1 a).1
  omega
theorem o7{Ar:TypeId×Va->H}{f:Func}{s:ChangeSpec}{c e d:Bool}{W W':Wo}{args:Array Va}{ds j:List (DataW H)}{a pa n:List MemPlace}
  (o:DataW.Whole Ar P f.params.toList s.vars c W args.toList ds j a) (q:Below W.heap.size W W')
  (k:∀(b:Nat) (t:Nat->Bool) (r:Bool),DataW.TrodAll Ar P W' b t r f.resultTypes.toList (v.resultList f.resultTypes.size) (s.fn H (ds++j)).results [])
  (g:DataW.TrodAll Ar P W' 0 (λb=>decide (b<W.heap.size)) true f.params.toList args.toList (s.fn H (ds++j)).args pa)
  (i:DataW.TrodVars Ar P W' (λb=>decide (b<W.heap.size)) s.vars (s.fn H (ds++j)).vars n) (m:a=pa++n) :
  s.post Ar P f c e d false W args v W':=by
 refine⟨ds,j,a,[],pa,n,o,k _ _ _,g,i,World.keptBut_mono (λp l=>⟨l,?_⟩) (q.frame (·∈a)),λh=>(by cases h)⟩;rw[m,Yt]at l;exact Or.inr l
theorem te{c:Nat}:∀(L:List Lv),(∀l∈L,l.length=c)->L.flatten.length=L.length*c
 | [],_=>by simp
 | a::L,h=>by
  rw[Gg,Y0,te L (λl b=>h l (by simp[b])),h a sz,Y4,T8,LW]
theorem pN{c:Nat}:∀(L:List Lv),(∀l∈L,l.length=c)->∀(i r:Nat),r<c->L.flatten[i*c+r]?=(L[i]?).bind (·[r]?)
 | [],_,i,r,_=>by simp
 | a::L,h,0,r,b=>by
  have d:=h a sz;rw[Gg,OE,Yl,Yf om];rfl
 | a::L,h,i+1,r,b=>by
  have d:=h a sz;rw[Gg,T8,Yy om,show i*c+c+r-a.length=i*c+r by omega,pN L (λl e=>h l (by simp[e])) i r b];rfl
theorem aZ{c:Nat}:∀(L:List Lv),(∀l∈L,l.length=c)->∀(i:Nat) (l:Lv),L[i]?=some l->(L.flatten.drop (i*c)).take c=l
 | [],_,i,l,h=>by simp at h
 | a::L,h,0,l,b=>by
  have d:=h a sz;simp at b
  subst b;rw[Gg,OE,EW,<-d,VE]
 | a::L,h,i+1,l,b=>by
  have d:=h a sz;rw[Gg,T8,LW,<-d,<-JU,kX,d];exact aZ L (λl b=>h l (by simp[b])) i l (su b)
section
variable {H:Type} {Ar:TypeId×Va->H} {P:Program} {W:Wo} {spare:Nat->Bool} {held:Bool}
theorem Xo4{c:Nat}{a:Addr}(h:W.cells? c a n=some vs):vs.length=n/\∀i,i<n->W.cell? (a.add i)=vs[i]?:=by
 unfold World.cells? at h;split at h
 ·have d:=Go.Lib.mapM_length h;rw[List.length_range]at d;refine⟨d,λi hi=>?_⟩;obtain⟨b,e,f⟩:=Go.Lib.mapM_at h i i (List.getElem?_range hi);rw[e,f]
 ·cases h
theorem uE{a:Addr}(l:0<xs.length)(h:∀j v,xs[j]?=some v->W.cell? (a.add j)=some v):At (Fk W) a xs:=by
 obtain⟨d,ao,n⟩:=a;have c:=h 0 xs[0] (Y2 l);have m:n=none:=by simpa[Addr.add]using World.cell?_spot c
 subst m;have e:∀j,(⟨d,ao,none⟩:Addr).add j=⟨d,ao+j,none⟩:=C7 d ao;rw[e]at c;unfold World.cell? at c;split at c
 ·rename_i f E i g
  refine⟨O,f,E,i,g,λj v k=>?_⟩;have b:=h j v k;rw[e]at b;unfold World.cell? at b;dsimp only at g
  rw[g]at b;simpa using b
 ·cases c
theorem s8{t e:Nat}{x:DataW H×List MemPlace}(K:P.underlying t=some (.slice e))(F:P.cellsOf e=c)(r:0<c)(h:DataW.trod Ar P W 0 spare held fuel t cs=some x):
  ∃(a:Oa) (cap:Nat) (L:List Lv) (n:Nat),cs=[.slice a L.length cap]/\L.length<=cap/\cap<=maxLen/\(∀l∈L,l.length=c)/\RS (Fk W) a c L.length L.flatten/\∀l∈L,∃y,DataW.trod Ar P W 0 spare held n e l=some y:=by
 rcases DataW.trod_slice K h with⟨rfl,_⟩|⟨a,len,cap,u,rest,n,_,rfl,_,_,k,G,C,s,_,_⟩
 ·exact⟨none,0,[],0,O,Y9 _,Y5 _,λ_ h=>by simp at h,RS.nil _ _,λ_ h=>by simp at h⟩
 ·rw[F]at s;have o:∀i,i<len->∃l,W.cells? 0 (a.add (i*c)) c=some l/\∃y,DataW.trod Ar P W 0 spare held n e l=some y:=λi hi=>by
   have p:=s i hi;rw[Y2 om]at p;obtain⟨l,q,E⟩:=iG.1 p;exact⟨l,q,_,E⟩
  let L:=(List.range len).map λi=>(W.cells? 0 (a.add (i*c)) c).getD []
  have w:∀i,i<len->∃l,L[i]?=some l/\W.cells? 0 (a.add (i*c)) c=some l/\∃y,DataW.trod Ar P W 0 spare held n e l=some y:=λi hi=>by
   obtain⟨l,p,q⟩:=o i hi;refine⟨l,?_,p,q⟩;simp only[L,Yu,List.getElem?_range hi,dC,p,iQ]
  have g:L.length=len:=by simp[L]
  have d:∀l∈L,∃i,i<len/\L[i]?=some l:=λl k=>by
   obtain⟨i,hi⟩:=GH.1 k;exact⟨i,by have:=(Y1.1 hi).1;omega,hi⟩
  have b:∀l∈L,l.length=c:=λl k=>by
   obtain⟨i,hi,m⟩:=d l k;obtain⟨M,f,q,_⟩:=w i hi;rw[m]at f;cases f;exact(Xo4 q).1
  refine⟨some a,cap,L,n,by rw[g],by rw[g];exact k,G,b,⟨te L b,λI=>⟨a,O,uE ?_ λj v z=>?_⟩⟩,λl k=>?_⟩
  ·rw[te L b];exact Nat.mul_pos I r
  ·have A:j<L.length*c:=by rw[<-te L b];exact(Y1.1 z).1
   have J:j/c<len:=by rw[<-g];exact zp (by rw[Fg];exact A)
   have D:j%c<c:=VG _ r;have B:j=j/c*c+j%c:=by rw[Fg];exact(oY j c).symm
   obtain⟨l,m,f,_⟩:=w (j/c) J;rw[B,pN L b _ _ D,m]at z
   have:=(Xo4 f).2 (j%c) D
   rw[B,show a.add (j/c*c+j%c)=(a.add (j/c*c)).add (j%c)by rw[Addr.add_add]];rw[this];exact z
  ·obtain⟨i,hi,m⟩:=d l k;obtain⟨M,f,_,y⟩:=w i hi;rw[m]at f;cases f;exact y
theorem MD{t e:Nat}{x:DataW H×List MemPlace}(r:P.underlying t=some (.slice e))(q:P.underlying e=some .string)(p:P.cellsOf e=1)(h:DataW.trod Ar P W 0 spare held fuel t cs=some x):
  ∃(a:Oa) (cap:Nat) (l:List Lu),cs=[.slice a l.length cap]/\l.length<=cap/\cap<=maxLen/\RS (Fk W) a 1 l.length (l.map S)/\∀s∈l,s.length<=maxLen:=by
 obtain⟨a,cap,L,n,rfl,k,m,A,j,o⟩:=s8 r p de h;have c:∀l∈L,∃s:ByteArray,l=[.string s]/\s.size<=maxLen:=λl g=>by
  obtain⟨y,w⟩:=o l g;obtain⟨s,rfl,_,i⟩:=DataW.trod_string q w;exact⟨s,O,i⟩
 have key:∀L:List Lv,(∀l∈L,∃s:ByteArray,l=[.string s]/\s.size<=maxLen)->∃ts:List Lu,ts.length=L.length/\L.flatten=ts.map S/\∀s∈ts,s.length<=maxLen:=by
  intro L
  induction L with
  | nil=>intro _;exact⟨[],O,O,λ_ h=>by simp at h⟩
  | cons l L z =>
   intro h;obtain⟨s,rfl,i⟩:=h l sz;obtain⟨ts,b,d,f⟩:=z (λl g=>h l (by simp[g]));refine⟨s.data.toList::ts,by simp[b],?_,λu v=>?_⟩
   ·rw[Gg,d];rfl
   ·rcases Ys.1 v with e|e
    ·subst e;exact i
    ·exact f u e
 obtain⟨ts,b,d,f⟩:=key L c;rw[d,<-b]at j;exact⟨a,cap,ts,by rw[b],by rw[b];exact k,m,j,f⟩
end
def X2(cells:α->Lv)(l:List α):Lv:=(l.map cells).flatten
theorem TF{α:Type}{cells:α->Lv}{s:Nat}(a:∀x,(cells x).length=s):∀l:List α,(X2 cells l).length=l.length*s
 | []=>by simp[X2]
 | x::l=>by
  have:=TF a l
  unfold X2 at this ⊢;rw[Yw,Gg,Y0,this,a,Y4,Gh];omega
theorem nC{cells:α->Lv}{s:Nat}(d:∀x,(cells x).length=s){l:List α}{j:Nat}{r:α}(f:l[i]?=some r)(e:(cells r)[j]?=some v):(X2 cells l)[i*s+j]?=some v:=by
 have a:j<s:=by rw[<-d r];exact(Y1.1 e).1
 have b:=pN (l.map cells) (λc h=>by obtain⟨x,_,rfl⟩:=Dj.1 h;exact d x) i j a;rw[Yu,f]at b;exact b.trans e
theorem TD(cells:α->Lv)(l:List α)(x:α):X2 cells (l++[x])=X2 cells l++cells x:=by simp[X2]
def H9(w:Wo)(cells:α->Lv)(s:Nat)(a:Oa)(l:List α):Prop:=∀(i:Nat) (r:α),l[i]?=some r->∃p,a=some p/\∀(j:Nat) v,(cells r)[j]?=some v->w.cell? ((p.add (i*s)).add j)=some v
section
variable {P:Program} {n:Nat} {K:Bj} {L:AD} {w B:Wo} {ops:Array Oper} {rest:List Oper} {I:Im} {N:La} {k:Nat} {ty t t' E:TypeId} {x y:Operand} {pos:String} {af:Array Edge} {g:Option (Nat×Bool)} {v:Va}
theorem Ob{cells:α->Lv}{s:Nat}{l:List α}(f:∀x,(cells x).length=s)(e:Aa B w I N)(d:RS I a s l.length (X2 cells l)):H9 w cells s a l:=λi r b=>by
 obtain⟨p,rfl,c⟩:=d.2 (oh ((Y1.1 b).1));refine⟨p,O,λj v g=>?_⟩;rw[Addr.add_add];exact JH e c (nC f b g)
theorem yk{cells:α->Lv}{s T:Nat}{l:List α}(p:∀x,(cells x).length=s)(n:Aa B w I N)(h:N[k]?=some (Ao T s (.slice a l.length cap) l.length (X2 cells l))):H9 w cells s a l:=λi r m=>by
 have hi:=(Y1.1 m).1;obtain⟨g,e,rest,t,_,_,_,_,b⟩:=n.AF h om;injection t with d u y
 have c:k<N.length:=(Y1.1 h).1;have o:w.heap[g]?=some (Xd (X2 cells l++rest) T):=b.block (k:=k) (by simp[c,Ad]);refine⟨⟨g,0,none⟩,d,λj v q=>?_⟩;rw[Addr.add_add,show(⟨g,0,none⟩:Addr).add (i*s+j)=ad g (0+(i*s+j)) from C7 g 0 _,Yl];refine Xx o ?_;have f:=nC p m q;rw[Yf (Y1.1 f).1];exact f
theorem Ex.Hc{s:Nat}(hx:Ev n L x (.pointer (some p)))(i:∀(j:Nat) v,vs[j]?=some v->w.cell? (p.add j)=some v)(f:∀w,(isAgg t).run P w=.ok true w)(e:∀w,(Go.sizeOf t).run P w=.ok s w)
  (c:vs.length=s):Ex P n L w ⟨d,.load t x,ty,pos,af,g⟩ (.agg vs.toArray) w:=λa b=>by
 have h:=run_loadCells_list (P:=P) w p vs i;rw[c]at h;simp[execOp,hx a b,Instr.loadAt,Instr.sureAddr,loadVar,f,e,h]
theorem Ex.ld1{v:Va}(hx:Ev n L x (.pointer (some p)))(e:w.cell? p=some v)(c:∀w,(isAgg t).run P w=.ok false w):Ex P n L w ⟨d,.load t x,ty,pos,af,g⟩ v w:=λa b=>by
 simp[execOp,hx a b,Instr.loadAt,Instr.sureAddr,loadVar,c,load,Sem.run,e]
theorem WL.Bk{d E:Nat}{v:Va}{r:Lv}{i:TypeInfo}{z:Va}(o:Aa B w I N)(hx:Ev n L x v)(R:Ev n L y (.slice a m c))(j:RS I a size m r)
  (D:N[k]?=some (Ao E size v nn xs)) (Q:P.underlying t=some (.slice E)) (hi:P.info? E=some i) (W:i.zero=some z) (b:i.size=size) (A:i.bytes=bytes) (H:z.cells.size=size)
  (S:r.all Value.oneCell'=true) (f:(nn+m)*bytes<=140737488355328/\nn+m<=maxLen) (M:Nat.blt d n=true)
  (h:∀J w',Aa B w' I (N.set k (Ao E size J (nn+m) (xs++r)))->WL P n ops K rest ((d,J)::L) w') :
  WL P n ops K (⟨some d,.call ⟨.builtin .append,#[x,y],#[t,t]⟩,ty,pos,af,none⟩::rest) L w:=by
 rcases JP m with l|l
 ·subst l;have G:r=[]:=Yc (su j.1);subst G;obtain⟨a0,c0,rfl,C,_⟩:=o.AP D;have j:(Builtin.append_ #[t,t] ty #[.slice a0 nn c0,.slice a 0 c]).run P w=.ok (.slice a0 nn c0) w:=by
   subst b;cases a0<;>cases a<;>simp[Builtin.append_,run_underlying Q,Go.sizeOf,typeInfo,hi,Builtin.lenOf,Builtin.firstCells,loadCells,loadCellsFrom,storeCells,C]
  have T:=h (.slice a0 nn c0) w (by
   have:N.set k (Ao E size (.slice a0 nn c0) (nn+0) (xs++[]))=N:=by
    rw[DG,Yx]
    have:=(Y1.1 D).2
    rw[<-this,kL]
   rw[this];exact o)
  exact WL.val (w':=w) (λe g=>by simp[execOp,resolve,invoke,builtin,hx e g,R e g,j]) M T
 ·obtain⟨p,rfl,U⟩:=j.2 l;obtain⟨J,w',F,s⟩:=vP (P:=P) (ty:=ty) o Q hi W b A H D (p:=p) (m:=m) (c:=c) j.1 l (λq u V=>JH o U V) (Dy.1 S) f.2 f.1
  exact WL.val (w':=w') (λe g=>by simp[execOp,resolve,invoke,builtin,hx e g,R e g,F]) M (h _ _ s)
theorem Ex.lH{f off:Nat}{v:Va}(hx:Ev n L x (.agg cs.toArray))(i:P.underlying t=some (.struct fs))(c:fs[f]?=some fd)(e:fd.offset=off)(h:∀w,(isAgg fd.type).run P w=.ok false w)(j:cs[off]?=some v):Ex P n L w ⟨d,.field t x f,ty,pos,af,g⟩ v w:=λa b=>by
 subst e;simp[execOp,hx a b,Instr.field,run_underlying i,c,asAgg,part,h,j]
theorem Ex.orI{a:Nat}(f:a<9223372036854775808)(h:b<9223372036854775808)(hx:Ev n L x (Ab a))(k:Ev n L y (Ab b)):Ex P n L w ⟨d,.binOp .or t x y t',ty,pos,af,g⟩ (Ab ((a||| b:Nat):Int)) w :=
 C8 hx k (Xh _ _ _ _) (by
  have l:a||| b<9223372036854775808:=zA (n:=63) f h;have e:∀c:Nat,c<9223372036854775808->(BitVec.ofInt 64 (c:Int)).toNat=c:=λc m=>by rw[BitVec.ofInt_natCast,BitVec.toNat_ofNat];exact kU om
  have i:(BitVec.ofInt IntKind.i64.bits (a:Int)||| BitVec.ofInt IntKind.i64.bits (b:Int)).toNat=a||| b:=by
   show(BitVec.ofInt 64 (a:Int)||| BitVec.ofInt 64 (b:Int)).toNat=a||| b
   rw[BitVec.toNat_or,e a f,e b h]
  have j:IntKind.i64.wrap ((a||| b:Nat):Int)=((a||| b:Nat):Int):=by rw[IntKind.wrap_i64];omega
  show(Op.intBits .or .i64 a b).run P w=_
  unfold Op.intBits;simp only[i,j,Sem.run_pure])
theorem Ex.Aaq{a:Nat}(f:a<9223372036854775808)(h:b<9223372036854775808)(hx:Ev n L x (Ab a))(k:Ev n L y (Ab b)):Ex P n L w ⟨d,.binOp .xor t x y t',ty,pos,af,g⟩ (Ab ((a^^^b:Nat):Int)) w :=
 C8 hx k (Xh _ _ _ _) (by
  have l:a^^^b<9223372036854775808:=Nat.xor_lt_two_pow (n:=63) f h;have e:∀c:Nat,c<9223372036854775808->(BitVec.ofInt 64 (c:Int)).toNat=c:=λc m=>by rw[BitVec.ofInt_natCast,BitVec.toNat_ofNat];exact kU om
  have i:(BitVec.ofInt IntKind.i64.bits (a:Int)^^^BitVec.ofInt IntKind.i64.bits (b:Int)).toNat=a^^^b:=by
   show(BitVec.ofInt 64 (a:Int)^^^BitVec.ofInt 64 (b:Int)).toNat=a^^^b
   rw[BitVec.toNat_xor,e a f,e b h]
  have j:IntKind.i64.wrap ((a^^^b:Nat):Int)=((a^^^b:Nat):Int):=by rw[IntKind.wrap_i64];omega
  show(Op.intBits .xor .i64 a b).run P w=_
  unfold Op.intBits;simp only[i,j,Sem.run_pure])
theorem Ex.Aap{a b:Ui}(hx:Ev n L x (U8 a.toNat))(i:Ev n L y (U8 b.toNat)):Ex P n L w ⟨d,.binOp .xor t x y t',ty,pos,af,g⟩ (U8 ((a^^^b).toNat:Int)) w :=
 C8 hx i (Xh _ _ _ _) (by
  have e:∀c:Ui,(BitVec.ofInt 8 (c.toNat:Int)).toNat=c.toNat:=λc=>by rw[BitVec.ofInt_natCast,BitVec.toNat_ofNat];exact kU c.toNat_lt
  have f:(BitVec.ofInt IntKind.u8.bits (a.toNat:Int)^^^BitVec.ofInt IntKind.u8.bits (b.toNat:Int)).toNat=(a^^^b).toNat:=by
   show(BitVec.ofInt 8 (a.toNat:Int)^^^BitVec.ofInt 8 (b.toNat:Int)).toNat=_
   rw[BitVec.toNat_xor,e a,e b,UInt8.toNat_xor]
  have j:=(a^^^b).toNat_lt;have h:IntKind.u8.wrap ((a^^^b).toNat:Int)=((a^^^b).toNat:Int):=by rw[IntKind.wrap_u8];omega
  show(Op.intBits .xor .u8 a.toNat b.toNat).run P w=_
  unfold Op.intBits;simp only[f,h,Sem.run_pure])
end
end Gk
namespace Tk
open Pc Gk Ul
def pre:Nat->List UInt8
 | 1=>[84,71,84]
 | 2=>[83,84]
 | 3=>[80,84]
 | 4=>[80,71,84]
 | 5=>[80,71,84,73,79,85]
 | 6=>[76,84]
 | _=>[]
def hx(c:Ui):Option Nat:=if 48<=c&&c<=57 then some (c.toNat-48)else if 97<=c&&c<=102 then some (c.toNat-87)else none
def EM(n:Nat):List UInt8->Option Nat
 | []=>some n
 | c::r=>match hx c with
  | some d=>EM (16*n+d) r
  | none=>none
def Oc(s:Lu):Option Nat:=if s.length=16 then EM 0 s else none
def LC(p:Lu):Nat:=if p=pre 1 then 1 else if p=pre 2 then 2 else if p=pre 3 then 3 else if p=pre 4 then 4 else if p=pre 5 then 5 else if p=pre 6 then 6 else 0
def Xi(s:Lu):Option (Nat×Nat) :=
 if LC (BD [45] s)=0 then none else(Oc ((Xu [45] s).drop 1)).map λd=>(LC (BD [45] s),d)
theorem jb{c:Ui}{d:Nat}(h:hx c=some d):d<16:=by
 have:=Xj (p:=λc=>match hx c with|some d=>decide (d<16)|none=>true) dk c
 rw[h]at this;simpa using this
theorem XB:∀(s:Lu) (n m k:Nat),n<16^k->EM n s=some m->m<16^(k+s.length)
 | [],n,m,k,b,h=>by
  simp only[EM,Option.some.injEq]at h
  subst h;exact b
 | c::r,n,m,k,b,h=>by
  rw[EM]at h;cases a:hx c with
  | none=>rw[a]at h;cases h
  | some d =>
   rw[a]at h;have e:=jb a
   have:=XB r (16*n+d) m (k+1) (by rw[LX];omega) h
   rw[Y4,show k+(r.length+1)=k+1+r.length by omega];exact this
theorem ed{s:Lu}{d:Nat}(h:Oc s=some d):d<18446744073709551616:=by
 unfold Oc at h;split at h
 ·rename_i a
  have:=XB s 0 d 0 de h
  rw[a]at this;exact this
 ·cases h
def LO:Nat->Nat->List UInt8
 | 0,_=>[]
 | k+1,n=>LO k (n/16)++[if n%16<10 then UInt8.ofNat (48+n%16)else UInt8.ofNat (87+n%16)]
theorem tx:∀(k n:Nat),(LO k n).length=k
 | 0,_=>rfl
 | k+1,n=>by rw[LO,Y0,tx k];rfl
theorem yK:∀(s t:Lu) (n:Nat),EM n (s++t)=(EM n s).bind λm=>EM m t
 | [],_,_=>rfl
 | c::r,t,n=>by
  rw[DV,EM,EM];cases hx c with
  | none=>rfl
  | some d=>exact yK r t _
theorem yf:∀c∈pre k,c≠45:=by
 intro c a e;subst e
 match k,a with
 | 0,h=>simp[pre]at h
 | 1,h=>simp[pre]at h
 | 2,h=>simp[pre]at h
 | 3,h=>simp[pre]at h
 | 4,h=>simp[pre]at h
 | 5,h=>simp[pre]at h
 | 6,h=>simp[pre]at h
 | k+7,h=>simp[pre]at h
theorem xU{p r:Lu}(h:∀c∈p,c≠45):BD [45] (p++45::r)=p/\Xu [45] (p++45::r)=45::r:=by
 induction p with
 | nil=>simp[BD,Xu]
 | cons c p e =>
  have d:c≠45:=h c sz;obtain⟨a,b⟩:=e (λx hx=>h x (by simp[hx]));simp only[BD,Xu]at a b ⊢
  rw[DV,u9,u4]
  have:(!([45]:Lu).contains c)=true:=by simp[d]
  rw[Y7 this,Y7 this];exact⟨Ye (c::·) a,b⟩
theorem XN(a:1<=k)(b:k<=6):LC (pre k)=k:=by
 have:=(by decide:∀k:Fin 7,1<=k.val->LC (pre k.val)=k.val) ⟨k,om⟩ a
 exact this
theorem Po(p:Lu):LC p<=6:=by
 unfold LC
 by_cases a:p=pre 1
 ·rw[Y7 a];decide
 by_cases b:p=pre 2
 ·rw[Y3 a,Y7 b];decide
 by_cases c:p=pre 3
 ·rw[Y3 a,Y3 b,Y7 c];decide
 by_cases d:p=pre 4
 ·rw[Y3 a,Y3 b,Y3 c,Y7 d];decide
 by_cases e:p=pre 5
 ·rw[Y3 a,Y3 b,Y3 c,Y3 d,Y7 e];decide
 by_cases f:p=pre 6
 ·rw[Y3 a,Y3 b,Y3 c,Y3 d,Y3 e,Y7 f];decide
 ·rw[Y3 a,Y3 b,Y3 c,Y3 d,Y3 e,Y3 f];decide
theorem uk{p:Lu}(h:LC p≠0):p=pre (LC p):=by
 unfold LC at h ⊢
 by_cases a:p=pre 1
 ·rw[Y7 a];exact a
 by_cases b:p=pre 2
 ·rw[Y3 a,Y7 b];exact b
 by_cases c:p=pre 3
 ·rw[Y3 a,Y3 b,Y7 c];exact c
 by_cases d:p=pre 4
 ·rw[Y3 a,Y3 b,Y3 c,Y7 d];exact d
 by_cases e:p=pre 5
 ·rw[Y3 a,Y3 b,Y3 c,Y3 d,Y7 e];exact e
 by_cases f:p=pre 6
 ·rw[Y3 a,Y3 b,Y3 c,Y3 d,Y3 e,Y7 f];exact f
 ·rw[Y3 a,Y3 b,Y3 c,Y3 d,Y3 e,Y3 f]at h;exact Aw O h
theorem cL{s:Lu}{d:Nat}(h:Xi s=some (k,d)):1<=k/\k<=6/\d<18446744073709551616/\s.length<=23/\s≠[]:=by
 unfold Xi at h;split at h
 ·cases h
 ·rename_i b
  obtain⟨x,hx,e⟩:=Gf.1 h;simp only[Prod.mk.injEq]at e
  obtain⟨rfl,rfl⟩:=e;have c:=Po (BD [45] s);refine⟨om,c,ed hx,?_,λe=>by subst e;exact b O⟩;unfold Oc at hx;split at hx
  ·rename_i a
   have f:=Xba [45] s;have g:(BD [45] s).length<=6:=by
    rw[uk b]
    have:=(by decide:∀k:Fin 7,(pre k.val).length<=6) ⟨LC (BD [45] s),om⟩
    exact this
   rw[Y6]at a;omega
  ·cases hx
end Tk
namespace Tr
open Tk
structure Ah where
 kind:Int
 name:Lu
 parent:Lu
 user:Lu
 service:Lu
 url:Lu
 made:Int
 used:Int
 A4:Int
 fresh:Bool
 deriving DecidableEq
def r0:Ah:=⟨0,[],[],[],[],[],0,0,0,false⟩
def bS(a of:Int):Bool:=(a==1&&of==0)||(a==6&&of==0)||(a==2&&of==1)||(a==3&&of==4)||(a==4&&of==2)||(a==4&&of==3)||(a==5&&of==4)
def nM(a:Int)(name:List UInt8):Bool:=if name=[]then bS a 0 else match Xi name with
 | some (of,_)=>bS a (of:Nat)
 | none=>false
def R8(s:List UInt8)(a:Int):Bool:=match Xi s with
 | some (k,_)=>((k:Nat):Int)==a
 | none=>false
def Dh(r:Ah):Bool :=
 (decide ((r.user.length:Int)<=32)&&decide ((r.service.length:Int)<=100)&&decide ((r.url.length:Int)<=100))&&(decide (0<=r.made)&&decide (r.made<=r.used)&&decide (r.used<=1099511627776)&&decide (0<=r.A4)&&decide (r.A4<=255))&&R8 r.name r.kind&&nM r.kind r.parent
def G6(name:List UInt8):List Ah->Nat->Int
 | [],_=>-1
 | r::l,i=>if r.name=name then(i:Int)else G6 name l (i+1)
def BE(l:List Ah)(name:Lu):Int:=G6 name l 0
theorem Xuz(name:Lu):∀(l:List Ah) (i:Nat),(G6 name l i=-1/\∀r∈l,r.name≠name)\/∃(j:Nat) (r:Ah),G6 name l i=((i+j:Nat):Int)/\l[j]?=some r/\r.name=name/\∀(q:Nat) (t:Ah),q<j->l[q]?=some t->t.name≠name
 | [],_=>.inl ⟨O,λr h=>by simp at h⟩
 | a::l,i=>by
  rw[G6]
  by_cases h:a.name=name
  ·rw[Y7 h];exact .inr ⟨0,a,O,O,h,λq t f=>Aw f om⟩
  ·rw[Y3 h];rcases Xuz name l (i+1)with⟨b,c⟩|⟨j,r,b,c,g,k⟩
   ·refine .inl ⟨b,λr m=>?_⟩;rcases Ys.1 m with e|e
    ·subst e;exact h
    ·exact c r e
   ·refine .inr ⟨j+1,r,by rw[b];congr 1;omega,c,g,λq t f d=>?_⟩;cases q with
    | zero=>simp at d;subst d;exact h
    | succ q=>exact k q t om (su d)
theorem Vd(l:List Ah)(name:Lu):(BE l name=-1/\∀r∈l,r.name≠name)\/∃(j:Nat) (r:Ah),BE l name=(j:Int)/\l[j]?=some r/\r.name=name/\∀(q:Nat) (t:Ah),q<j->l[q]?=some t->t.name≠name:=by
 rcases Xuz name l 0 with h|⟨j,r,a,b⟩
 ·exact .inl h
 ·exact .inr ⟨j,r,by rw[BE,a,Yl],b⟩
theorem oG(l:List Ah)(name:Lu):BE l name<l.length:=by
 rcases Vd l name with⟨h,_⟩|⟨j,r,h,a,_⟩
 ·rw[h];omega
 ·have:=(Y1.1 a).1
  rw[h];omega
theorem VX(l:List Ah)(name:Lu):-1<=BE l name:=by
 rcases Vd l name with⟨h,_⟩|⟨j,r,h,_⟩<;>rw[h]<;>omega
def get(l:List Ah)(name:Lu):Option Ah:=l.find? λr=>decide (r.name=name)
theorem get_at(l:List Ah)(name:Lu):(BE l name=-1/\get l name=none)\/∃(j:Nat) (r:Ah),BE l name=(j:Int)/\l[j]?=some r/\r.name=name/\get l name=some r:=by
 rcases Vd l name with⟨d,c⟩|⟨j,r,d,c,e,f⟩
 ·refine .inl ⟨d,?_⟩;unfold get;rw[List.find?_eq_none];intro r g;simpa using c r g
 ·refine .inr ⟨j,r,d,c,e,?_⟩;unfold get
  have:∀(l:List Ah) (j:Nat),l[j]?=some r->(∀(q:Nat) (t:Ah),q<j->l[q]?=some t->t.name≠name)->l.find? (λr=>decide (r.name=name))=some r:=by
   intro l
   induction l with
   | nil=>intro j h;simp at h
   | cons a l k =>
    intro j h b;rw[zG];cases j with
    | zero=>simp at h;subst h;rw[decide_eq_true e]
    | succ j =>
     rw[decide_eq_false (b 0 a om O)];exact k j (su h) (λq t m i=>b (q+1) t om (su i))
  exact this l j c f
def K0(room:Int)(l:List Ah)(r:Ah):Nat:=if Dh r=false then 1 else if 0<=BE l r.name then 7 else if r.parent≠[]/\BE l r.parent<0 then 6 else if room<=l.length then 5 else 0
def add(room:Int)(l:List Ah)(r:Ah):List Ah:=if K0 room l r=0 then l++[r]else l
def FE(l:List Ah)(r:Ah):Nat:=if Dh r=false then 1 else match get l r.name with
 | none=>6
 | some t=>if t.parent≠r.parent then 8 else 0
def put(l:List Ah)(r:Ah):List Ah:=if FE l r=0 then l.set (BE l r.name).toNat r else l
structure Wf(l:List Ah):Prop where
 right:∀r∈l,Dh r=true
 one:∀(i j:Nat) (r s:Ah),l[i]?=some r->l[j]?=some s->r.name=s.name->i=j
 up:∀(i:Nat) (r:Ah),l[i]?=some r->(r.parent=[]\/0<=BE l r.parent)/\BE l r.parent<i
theorem Wf.nil:Wf []:=⟨λr h=>by simp at h,λi j r s h=>by simp at h,λi r h=>by simp at h⟩
theorem Wf.at_{l:List Ah}(h:Wf l){r:Ah}(b:l[i]?=some r):BE l r.name=(i:Int):=by
 rcases Vd l r.name with⟨_,a⟩|⟨j,t,c,a,d,_⟩
 ·exact Aw O (a r (Y8 b))
 ·rw[c,h.one j i t r a b d]
theorem Wf.rf{l:List Ah}(h:Wf l){r:Ah}(a:l[i]?=some r):get l r.name=some r:=by
 rcases get_at l r.name with⟨b,_⟩|⟨j,t,b,c,d,f⟩
 ·rw[h.at_ a]at b;omega
 ·rw[f];have e:j=i:=h.one j i t r c a d;subst e;rw[c]at a;exact a
theorem wR{r:Ah}(h:Dh r=true):r.name≠[]:=by
 intro e;unfold Dh at h;simp only[Yb]at h
 have a:=h.1.2;unfold R8 at a;rw[e]at a;cases b:Xi []with
 | none=>rw[b]at a;cases a
 | some x=>exact(cL (k:=x.1) (d:=x.2) b).2.2.2.2 O
theorem OK(name:Lu):∀(l m:List Ah) (i:Nat),G6 name (l++m) i=if G6 name l i=-1 then G6 name m (i+l.length)else G6 name l i
 | [],m,i=>by simp[G6]
 | a::l,m,i=>by
  rw[DV,G6,G6];split
  ·rw[Y3 om]
  ·rw[OK name l m (i+1),Y4,show i+1+l.length=i+(l.length+1)by omega]
theorem dM(l:List Ah)(r:Ah)(name:Lu):BE (l++[r]) name=if BE l name=-1 then(if r.name=name then(l.length:Int)else -1)else BE l name:=by
 unfold BE;rw[OK];simp[G6]
theorem tB{l:List Ah}{r:Ah}{t:Ah}(h:(l++[r])[i]?=some t):l[i]?=some t\/(i=l.length/\t=r):=by
 rcases Yz i l.length with a|a
 ·rw[Yf a]at h;exact .inl h
 ·rw[Yy a]at h;have b:=(Y1.1 h).1;simp at b
  have c:i=l.length:=om
  subst c;simp at h
  exact .inr ⟨O,h.symm⟩
theorem LY{l:List Ah}{r:Ah}(h:K0 room l r=0):Dh r=true/\BE l r.name=-1/\(r.parent=[]\/0<=BE l r.parent)/\(l.length:Int)<room:=by
 unfold K0 at h;split at h
 ·cases h
 ·rename_i a
  split at h
  ·cases h
  ·rename_i d
   split at h
   ·cases h
   ·rename_i b
    split at h
    ·cases h
    ·refine⟨su a,by have:=VX l r.name;omega,?_,om⟩
     by_cases e:r.parent=[]
     ·exact .inl e
     ·refine .inr ?_
      have:¬ BE l r.parent<0:=λc=>b ⟨e,c⟩
      omega
theorem Wf.snoc{l:List Ah}(h:Wf l){r:Ah}(v:Dh r=true)(o:BE l r.name=-1)(u:r.parent=[]\/0<=BE l r.parent):Wf (l++[r]):=by
 have m:∀t∈l,t.name≠r.name:=by
  rcases Vd l r.name with⟨_,f⟩|⟨j,t,f,_⟩
  ·exact f
  ·rw[f]at o;omega
 have k:∀l:List Ah,(∀r∈l,Dh r=true)->BE l []=-1:=λl x=>by
  rcases Vd l []with⟨f,_⟩|⟨j,t,_,n,c,_⟩
  ·exact f
  ·exact Aw c (wR (x t (Y8 n)))
 refine⟨λt n=>?_,λi j s t hi q c=>?_,λi t hi=>?_⟩
 ·rcases Yt.1 n with e|e
  ·exact h.right t e
  ·simp at e;subst e;exact v
 ·rcases tB hi with a|⟨a,d⟩
  ·rcases tB q with b|⟨b,g⟩
   ·exact h.one i j s t a b c
   ·rw[g]at c;exact Aw c (m s (Y8 a))
  ·rcases tB q with b|⟨b,g⟩
   ·rw[d]at c;exact Aw c.symm (m t (Y8 b))
   ·omega
 ·have key:∀(t:Ah),(t.parent=[]\/0<=BE l t.parent)->BE (l++[r]) t.parent=BE l t.parent:=λt n=>by
   rw[dM];rcases n with e|e
   ·rw[e,k l h.right,Y7 O,Y3 (wR v)]
   ·rw[Y3 om]
  rcases tB hi with a|⟨a,d⟩
  ·obtain⟨p,w⟩:=h.up i t a;rw[key t p];exact⟨p,w⟩
  ·subst a;subst d;rw[key t u];exact⟨u,oG l t.parent⟩
theorem Wf.add{l:List Ah}(h:Wf l){room:Int}{r:Ah}:Wf (add room l r):=by
 unfold Tr.add;split
 ·rename_i d
  obtain⟨a,b,c,_⟩:=LY d;exact h.snoc a b c
 ·exact h
theorem OL(name:Lu){r:Ah}:∀(l:List Ah) (k i:Nat) (t:Ah),l[k]?=some t->t.name=r.name->G6 name (l.set k r) i=G6 name l i
 | [],k,i,t,h,_=>by simp at h
 | a::l,0,i,t,h,b=>by
  simp at h;subst h
  rw[List.set_cons_zero,G6,G6,b]
 | a::l,k+1,i,t,h,b=>by
  rw[List.set_cons_succ,G6,G6,OL name l k (i+1) t (su h) b]
theorem uR{l:List Ah}{r:Ah}(h:FE l r=0):Dh r=true/\∃(j:Nat) (t:Ah),BE l r.name=(j:Int)/\l[j]?=some t/\t.name=r.name/\t.parent=r.parent/\get l r.name=some t:=by
 unfold FE at h;split at h
 ·cases h
 ·rename_i c
  refine⟨su c,?_⟩;rcases get_at l r.name with⟨_,a⟩|⟨j,t,a,d,e,b⟩
  ·rw[a]at h;cases h
  ·rw[b]at h;simp only at h
   split at h
   ·cases h
   ·rename_i f
    exact⟨j,t,a,d,e,su f,b⟩
theorem Wf.set{l:List Ah}(h:Wf l){j:Nat}{t r:Ah}(f:l[j]?=some t)(n:t.name=r.name)(w:t.parent=r.parent)(x:Dh r=true):Wf (l.set j r):=by
 have z:=(Y1.1 f).1;have e:∀name,BE (l.set j r) name=BE l name:=λname=>OL name l j 0 t f n
 have g:∀(i:Nat) (s:Ah),(l.set j r)[i]?=some s->∃u,l[i]?=some u/\u.name=s.name/\u.parent=s.parent:=λi s b=>by
  rw[oU]at b;split at b
  ·rename_i d
   subst d;cases b
   exact⟨t,f,n,w⟩
  ·exact⟨s,b,O,O⟩
 refine⟨λs b=>?_,λi k s u hi v q=>?_,λi s hi=>?_⟩
 ·rcases oO b with a|a
  ·exact h.right s a
  ·subst a;exact x
 ·obtain⟨m,a,c,_⟩:=g i s hi;obtain⟨y,o,p,_⟩:=g k u v;exact h.one i k m y a o (by rw[c,p,q])
 ·obtain⟨m,a,_,c⟩:=g i s hi;rw[e,<-c];exact h.up i m a
theorem Wf.put{l:List Ah}(h:Wf l){r:Ah}:Wf (put l r):=by
 unfold Tr.put;split
 ·rename_i f
  obtain⟨a,j,t,b,c,d,e,_⟩:=uR f;rw[b,Yh];exact h.set c d e a
 ·exact h
def LK(l:List Ah):Nat->Int->List Ah
 | 0,_=>[]
 | f+1,i=>if i<0 then[]else match l[i.toNat]? with
  | some r=>r::LK l f (BE l r.parent)
  | none=>[]
theorem nz(l:List Ah)(f:Nat){i:Int}(h:i<0):LK l f i=[]:=by
 cases f with
 | zero=>rfl
 | succ f=>rw[LK,Y7 h]
theorem Xjb{l:List Ah}(h:Wf l):∀(f g:Nat) (i:Int),i<f->i<g->LK l f i=LK l g i
 | 0,g,i,a,_=>by rw[nz l g om,nz l 0 om]
 | f+1,0,i,_,b=>by rw[nz l (f+1) om,nz l 0 om]
 | f+1,g+1,i,a,b=>by
  rw[LK,LK];split
  ·rfl
  ·rename_i hi
   cases c:l[i.toNat]? with
   | none=>rfl
   | some r =>
    have d:=(h.up i.toNat r c).2;simp only
    rw[Xjb h f g (BE l r.parent) om om]
def kE(l:List Ah)(i:Int):List Ah:=LK l (i.toNat+1) i
def path(l:List Ah)(name:Lu):List Ah:=kE l (BE l name)
theorem SL(l:List Ah){i:Int}(h:i<0):kE l i=[]:=nz l _ h
theorem Xx7{l:List Ah}(h:Wf l){r:Ah}(a:l[i]?=some r):kE l (i:Int)=r::kE l (BE l r.parent):=by
 unfold kE;rw[Yh,LK,Y3 om,Yh,a];simp only
 have b:=(h.up i r a).2;rw[Xjb h i ((BE l r.parent).toNat+1) _ om om]
def HP(l:List Ah)(name:Lu):List Ah:=l.filter λr=>decide (name≠[])&&decide (r.parent=name)
def kids(l:List Ah)(name:Lu):List Lu:=(HP l name).map Ah.name
def Dg(l:List Ah):Nat->List UInt8->List (List UInt8)
 | 0,_=>[]
 | f+1,name=>name::(kids l name).flatMap (Dg l f)
def below(l:List Ah)(name:Lu):List Lu:=if 0<=BE l name then Dg l l.length name else[]
def drop(l:List Ah)(name:Lu):List Ah:=l.filter λr=>!(below l name).contains r.name
def EP{α:Type}(a:α->Bool):List α->Nat->Int
 | [],_=>-1
 | s::r,i=>if a s then(i:Int)else EP a r (i+1)
theorem we{α:Type}(a:α->Bool):∀(n:Nat) (r:List α) (i:Nat),(∀(j:Nat) s,j<n->r[j]?=some s->a s=false)->EP a r i=EP a (r.drop n) (i+min n r.length)
 | 0,r,i,_=>by simp
 | n+1,[],i,_=>by simp[EP]
 | n+1,s::r,i,h=>by
  rw[EP,Y3 (by rw[h 0 s om O];decide),we a n r (i+1) (λj t c b=>h (j+1) t om (su b)),Em,Y4]
  congr 1
  omega
theorem jG{a:α->Bool}{l:List α}{s:α}(h:∀(j:Nat) t,j<i->l[j]?=some t->a t=false)(b:l[i]?=some s)(c:a s=true):EP a l 0=(i:Int):=by
 have hi:=(Y1.1 b).1;rw[we a i l 0 h,Yl,JT om,Yq hi,(Y1.1 b).2,EP,Y7 c]
theorem jF{a:α->Bool}{l:List α}(h:∀(j:Nat) t,l[j]?=some t->a t=false):EP a l 0=-1:=by
 rw[we a l.length l 0 (λj t _ b=>h j t b),VC];rfl
theorem cK{α:Type}(a:α->Bool):∀(l:List α) (i:Nat),decide (0<=EP a l i)=l.any a
 | [],i=>rfl
 | s::r,i=>by
  rw[EP,zK];split
  ·rename_i h
   rw[h,Bool.true_or,decide_eq_true_eq];omega
  ·rename_i h
   rw[zw.2 h,dD,cK a r (i+1)]
theorem Xvp(name:Lu):∀(l:List Ah) (i:Nat),EP (λr=>decide (r.name=name)) l i=G6 name l i
 | [],i=>rfl
 | s::r,i=>by
  rw[EP,G6,Xvp name r (i+1)];simp only[decide_eq_true_eq]
def getD(l:List Ah)(name:Lu):Ah:=(get l name).getD r0
end Tr
namespace Go.Proofs.W9
open Gk Ul Pc DS Xm Tr
open Tryz
theorem tu(h:At I p vs)(n:Nat):At I p (vs.take n):=by
 obtain⟨d,b,E,c,e,f⟩:=h;refine⟨d,b,E,c,e,λj v a=>?_⟩;rw[Q_]at a;split at a
 ·exact f j v a
 ·cases a
theorem Bv{cells:α->Lv}{s:Nat}(e:∀x,(cells x).length=s){l:List α}(d:RS I a s l.length (X2 cells l)){x:α}(hx:l[i]?=some x):∃q,a=some q/\At I (q.add (i*s)) (cells x):=by
 obtain⟨q,rfl,f⟩:=d.2 (oh ((Y1.1 hx).1));refine⟨q,O,?_⟩;have b:=tu (f.add (i*s)) s;rw[X2,aZ (l.map cells) (λc h=>by obtain⟨y,_,rfl⟩:=Dj.1 h;exact e y) i (cells x) (by rw[Yu,hx];rfl)]at b;exact b
abbrev Gx(p:Px):Lv:=[S p.1,S p.2]
def sx:Lv:=X2 Gx MK
structure Kx(I:Im):Prop where
 FY:At I (ad 7 0) sx
 pow : ∀(B w : World) (N : List X1), Aa B w I N → Go.Lib.TabIs prog w "internal/strconv.uint64pow10" .u64 Go.Lib.pow10Tab
 max:∀(B w:Wo) (N:La),Aa B w I N->∃m,w.cell? ⟨1,0,none⟩=some (.int .i64 m)
theorem qC(c:Le I J):Aa B w J N->Aa B w I N:=λ⟨g,d,a⟩=>⟨g,d,a.os,a.tape,a.output,λb o hi=>a.Ha b o (c.h b o hi),a.own,a.nodup,λb o e=>by
  cases hi:I b with
  | none=>rfl
  | some x=>have:=a.apart b o e;rw[c.h b x hi]at this;cases this⟩
theorem Kx.mono(h:Kx I)(a:Le I J):Kx J :=
 ⟨h.FY.mono a,λB w N s=>h.pow B w N (qC a s),λB w N s=>h.max B w N (qC a s)⟩
theorem Uf(s:Lu)(c:Ui)(g:s.length<=1000000)(b:Kx I)(N:La)(a:Aa B w I N):Calls prog 18 #[S s,S [c]] w (AY λv w'=>v=.tuple #[S (BD [c] s),S ((Xu [c] s).drop 1),.bool (!(Xu [c] s).isEmpty)]/\Aa B w' I N):=by
 obtain⟨m,f⟩:=b.max B w N a;refine(strings_Cut ⟨s.toArray⟩ ⟨[c].toArray⟩ m w (by show s.length<_;omega) f).mono λe w' d=>?_
 obtain⟨rfl,n,rfl⟩:=d;refine⟨_,O,?_,jI a n⟩;show Value.tuple #[S (Go.Lib.cut s [c]).1,S (Go.Lib.cut s [c]).2.1,.bool (Go.Lib.cut s [c]).2.2]=_
 rw[OV]
theorem Xnu(s m:Lu)(c:Ui)(x:s.length<=100000000)(r:m.length<=6)(b:([c]==m)=false)(g:Kx I)(N:La)(d:Aa B w I N):Calls prog 426 #[S s,S [c],S m] w (AY λv w'=>v=S (LR c m s)/\Aa B w' I N):=by
 obtain⟨q,t⟩:=g.max B w N d;have a:Go.Lib.countB ⟨s.toArray⟩ ⟨[c].toArray⟩<=s.length:=by
  have h:∀(n:Nat) (s:Lu),s.length<=n->Go.Lib.count s [c]<=s.length:=by
   intro n
   induction n with
   | zero =>
    intro s h
    have:s=[]:=Yc om
    subst this;rw[Go.Lib.count_miss (by rw[Go.Lib.index_one];rfl)];exact Y9 _
   | succ n u =>
    intro s h;have o:=Go.Lib.indexByte_ge s c
    by_cases e:Go.Lib.indexByte s c=-1
    ·rw[Go.Lib.count_miss (by rw[Go.Lib.index_one];exact e)];exact Y5 _
    ·obtain⟨i,f⟩:∃k:Nat,Go.Lib.indexByte s c=k:=⟨(Go.Lib.indexByte s c).toNat,om⟩
     have p:i<s.length:=(Y1.1 (Go.Lib.indexByte_some f).1).1;rw[Go.Lib.count_hit sz (by rw[Go.Lib.index_one];exact f)]
     have:=u (s.drop (i+1)) (by rw[Y6];omega)
     rw[Y6]at this;show 1+Go.Lib.count (s.drop (i+1)) [c]<=_
     omega
  exact h _ s (Y9 _)
 refine(strings_ReplaceAll ⟨s.toArray⟩ ⟨[c].toArray⟩ ⟨m.toArray⟩ q w (by show s.length<_;omega) t (Y9 1) ?_).mono λe w' l=>?_
 ·show s.length+Go.Lib.countB ⟨s.toArray⟩ ⟨[c].toArray⟩*m.length<=_
  have:Go.Lib.countB ⟨s.toArray⟩ ⟨[c].toArray⟩*m.length<=s.length*6:=vj a r
  omega
 ·obtain⟨rfl,j⟩:=l;refine⟨_,O,?_,d.grown j⟩;show S (Go.Lib.replaceAll s [c] m)=_
  rw[Xtz c m s b]
theorem ep:∀(s p:Lu),Go.Lib.hasPrefix s p=AW s p:=by
 intro s p;unfold Go.Lib.hasPrefix AW;rw[kV,qH,Y6a];(try rw[Yh]);simp only[Yb,decide_eq_true_eq,beq_iff_eq]
 constructor
 ·intro h
  have:=Ye List.length h
  rw[Yj]at this;exact⟨om,h.symm⟩
 ·exact λh=>h.2.symm
theorem Xk1(s p:Lu)(N:La)(a:Aa B w I N):Calls prog 32 #[S s,S p] w (AY λv w'=>v=.tuple #[S (if AW s p=true then s.drop p.length else s),.bool (AW s p)]/\Aa B w' I N):=by
 refine(strings_CutPrefix ⟨s.toArray⟩ ⟨p.toArray⟩ w).mono λe w' b=>?_
 obtain⟨rfl,rfl⟩:=b;refine⟨_,O,?_,a⟩;show Value.tuple #[S (Go.Lib.trimPrefix s p),.bool (Go.Lib.hasPrefix s p)]=_
 unfold Go.Lib.trimPrefix;rw[ep]
theorem Ex.R5{x y:Operand}{t:TypeId}{g:Option (Nat×Bool)}{s:Nat}{e:TypeId}{us:Lv}{i:Int}{q:IntKind}(hx:Ev n L x (.agg vs.toArray))(o:Ev n L y (.int q i))(hi:0<=i)(h:i<(m:Int))(k:P.underlying t=some (.array m e))(j:∀w,(Go.sizeOf e).run P w=.ok s w)(f:∀w,(isAgg e).run P w=.ok true w)(l:(vs.drop (i.toNat*s)).take s=us)(a:i.toNat*s+s<=vs.length):
  Ex P n L w ⟨d,.index t x y,ty,pos,af,g⟩ (.agg us.toArray) w:=λb c=>by
 subst l;simp[execOp,hx b c,o b c,Instr.index,run_underlying k,asIntOf,hi,h,j,f,part,a]
theorem eT(c:Ui):((decide (97<=(c.toNat:Int))&&decide ((c.toNat:Int)<=122))||(decide (65<=(c.toNat:Int))&&decide ((c.toNat:Int)<=90)))=Iw c:=eq_of_beq (Xj (p:=λc=>((decide (97<=(c.toNat:Int))&&decide ((c.toNat:Int)<=122))||(decide (65<=(c.toNat:Int))&&decide ((c.toNat:Int)<=90)))==Iw c) dk c)
theorem ew(c:Ui):((((Iw c||(decide (48<=(c.toNat:Int))&&decide ((c.toNat:Int)<=57)))||((c.toNat:Int)==58))||((c.toNat:Int)==45))||((c.toNat:Int)==95))=R7 c:=eq_of_beq (Xj (p:=λc=>((((Iw c||(decide (48<=(c.toNat:Int))&&decide ((c.toNat:Int)<=57)))||((c.toNat:Int)==58))||((c.toNat:Int)==45))||((c.toNat:Int)==95))==R7 c) dk c)
theorem ZP(c:Ui):(((c.toNat:Int)==127)||((decide ((c.toNat:Int)<32)&&((c.toNat:Int)!=9))&&((c.toNat:Int)!=10)))=!mI c:=eq_of_beq (Xj (p:=λc=>(((c.toNat:Int)==127)||((decide ((c.toNat:Int)<32)&&((c.toNat:Int)!=9))&&((c.toNat:Int)!=10)))==!mI c) dk c)
theorem Pb{s:Lu}(h:s≠[]):s.headD 0=at_ s 0:=by
 cases s with
 | nil=>exact Aw O h
 | cons a b=>rfl
theorem Xhq(c:Ui)(N:La)(a:Aa B w I N):
  Ce B I N 435 [U8 c.toNat] w (.bool (Iw c)):=by
 refine gH 14 ?_;exact gG 2 ⟨Ye Value.bool (eT c),a⟩
theorem Xum(c:Ui)(N:La)(a:Aa B w I N):
  Ce B I N 436 [U8 c.toNat] w (.bool (R7 c)):=by
 refine gE 2 (Xhq c) ?_;intro w a;refine gH 14 ?_;exact gG 7 ⟨Ye Value.bool (ew c),a⟩
theorem Xr4(s:Lu)(t:s.length<=1000000)(N:La)(a:Aa B w I N):
  Ce B I N 423 [S s] w (.bool (QZ s)):=by
 refine gH 5 (.Am O O (λb=>.lW (l:=s) (i:=(0:Int)) (.gd b O) (.of O) om (oh (LU.2 (show s≠[] from by simpa using b))) Bb) O ?_);refine .AA (T:=λw=>Aa B w I N) O O O func435 O (λb=>(X4 (.gd b O) X3)) O (λb=>Xhq (at_ s 0) _ a) a ?_;clear a;rintro w a;refine gM 2 ?_ ?_<;>intro c n
 ·refine gG 1 (⟨Ye Value.bool ?_,a⟩);unfold QZ
  by_cases g:s=[]
  ·rw[g];rfl
  ·have h:=c;rw[show(s==[])=false by simpa using g,dD]at h;rw[Pb g,show Iw (at_ s 0)=false by simpa using h,b_];rfl
 refine gG 3 (.lk [0,13] (σ:=Nat) (λi _m=>(14,Ab (i:Nat))::_m) (λi w=>i<=s.length/\(∀j,j<i->j<s.length->R7 (at_ s (j:Int))=true)/\Aa B w I N) (λi=>s.length-i) 0 ⟨Y5 _,λ_ h=>Aw h om,a⟩ ?_);rintro i w ⟨hi,f,a⟩;refine gN 1 ?_ ?_<;>intro o
 ·refine gE 5 (Xum _) ?_;intro w a;refine gM 1 ?_ ?_<;>intro d q
  ·refine gG 1 (⟨Ye Value.bool ?_,a⟩);unfold QZ;rw[p_ (p:=R7) (i:=i) om (su d),b_]
  refine gG 2 (rd (i+1) ⟨om,λj r k=>?_,a⟩);rcases Yz j i with m|m
  ·exact f j m k
  ·have e:j=i:=om
   subst e;simpa using d
 refine gG 1 (⟨Ye Value.bool ?_,a⟩);have h:=c;simp only[G3,ve]at h
 have g:s≠[]:=su h.1
 unfold QZ;rw[Pb g,h.1,h.2,n4 f om];rfl
theorem Xjz(s:Lu)(n:s.length<=1000000)(N:La)(b:Aa B w I N):
  Ce B I N 425 [S s] w (.bool (ic s)):=by
 refine gG 4 (.lk [0,6] (σ:=Nat) (λi _m=>(7,Ab (i:Nat))::_m) (λi w=>i<=s.length/\(∀j,j<i->j<s.length->mI (at_ s (j:Int))=true)/\Aa B w I N) (λi=>s.length-i) 0 ⟨Y5 _,λ_ h=>Aw h om,b⟩ ?_);rintro i w ⟨hi,d,b⟩;refine gN 1 ?_ ?_<;>intro l
 ·refine gH 14 ?_;refine gM 6 ?_ ?_<;>intro a k
  ·refine gG 1 (⟨Ye Value.bool ?_,b⟩);have c:=ZP (at_ s (i:Int));rw[a]at c;exact(p_ (p:=mI) (i:=i) om (su c.symm)).symm
  refine gG 2 (rd (i+1) ⟨om,λj m f=>?_,b⟩);rcases Yz j i with g|g
  ·exact d j g f
  ·have e:j=i:=om
   subst e;have c:=ZP (at_ s (j:Int));rw[a]at c;simpa using c.symm
 exact gG 1 ⟨Ye Value.bool (n4 d om).symm,b⟩
theorem Xhx(a:Oa)(cap:Nat)(l:List (Px))(A:l.length<=9223372036854775807)(q:Px->Bool)(f:FuncId)(fn:Func)(o:prog.funcs[f]?=some fn)(m:Xc fn=true)(b:Lv)(N:La)(x:∀w,Aa B w I N->H9 w Gx 2 a l)(z:∀(r:Px) (n:r∈l) w,Aa B w I N->Calls prog f ([Value.agg (Gx r).toArray]++b).toArray w (AY λv w'=>v=.bool (q r)/\Aa B w' I N))(c:Aa B w I N):
  Ce B I N 287 [.slice a l.length cap,.func (.func f) #[] b.toArray] w (Ab (EP q l 0)):=by
 refine gG 4 (.lk [0,1,7] (σ:=Nat) (λi _m=>(8,Ab (i:Nat))::_m) (λi w=>i<=l.length/\(∀(j:Nat) t,j<i->l[j]?=some t->q t=false)/\Aa B w I N) (λi=>l.length-i) 0 ⟨Y5 _,λ_ _ h=>Aw h om,c⟩ ?_);rintro i w ⟨hi,g,c⟩;refine gN 1 ?_ ?_<;>intro y
 ·obtain⟨r,n⟩:∃r,l[i]?=some r:=⟨_,Y2 om⟩
  obtain⟨p,rfl,hx⟩:=x w c i r n;refine gH 6 (.val (.Hc (.of O) hx F3 JN O) O (.Bu (cap:=b) o m (.of O) (AM O X3) O (z r (Y8 n) w c) ?_));rintro _ w ⟨rfl,c⟩;refine gM 0 ?_ ?_<;>intro d u
  ·exact gG 2 ⟨by rw[jG g n d],c⟩
  refine gG 2 (rd (i+1) ⟨om,λj t C k=>?_,c⟩);rcases Yz j i with s|s
  ·exact g j t s k
  ·have e:j=i:=om
   subst e;rw[n]at k;cases k;exact d
 exact gG 1 ⟨by rw[jF (λj t k=>g j t (oh ((Y1.1 k).1)) k)],c⟩
theorem Xbk(a:Oa)(cap:Nat)(l:List (Px))(g:l.length<=9223372036854775807)(e:Px->Bool)(b:FuncId)(fn:Func)(f:prog.funcs[b]?=some fn)(d:Xc fn=true)(c:Lv)(N:La)(i:∀w,Aa B w I N->H9 w Gx 2 a l)(j:∀(r:Px) (k:r∈l) w,Aa B w I N->Calls prog b ([Value.agg (Gx r).toArray]++c).toArray w (AY λv w'=>v=.bool (e r)/\Aa B w' I N))(h:Aa B w I N):
  Ce B I N 197 [.slice a l.length cap,.func (.func b) #[] c.toArray] w (.bool (l.any e)):=by
 refine gP 3 [] (Xhx a cap l g e b fn f d _ N i j) ?_;rintro _ w ⟨rfl,h⟩;exact gG 2 ⟨by rw[<-cK e l 0],h⟩
theorem Xz4(r a:Px)(b:Nat)(N:La)(c:Aa B w I (Ad b [S a.1,S a.2] 99::N)):
  Ce B I (Ad b [S a.1,S a.2] 99::N) 437 [.agg (Gx r).toArray,ptr b 0] w (.bool (r.1==a.1)):=by
 refine gG 8 ?_;intro d w c;exact⟨O,c.s⟩
theorem fI{l:List Px}(h:RS I a 2 l.length (X2 Gx l))(k:Nat)(g:k<=l.length):RS I a 2 (l.take k).length (X2 Gx (l.take k)):=by
 refine⟨TF (cells:=Gx) (λ_=>rfl) _,λd=>?_⟩;obtain⟨p,rfl,f⟩:=h.2 (by rw[Yj]at d;omega);refine⟨p,O,?_⟩;have b:=tu f (X2 Gx (l.take k)).length;have e:(X2 Gx l).take (X2 Gx (l.take k)).length=X2 Gx (l.take k):=by
  have c:X2 Gx l=X2 Gx (l.take k)++X2 Gx (l.drop k):=by
   conv=>lhs;rw[<-FA k l]
   unfold X2;rw[Yn,T5]
  conv=>lhs;rw[c]
  exact VE
 rw[e]at b;exact b
theorem NI(A:Oa)(cap:Nat)(l:List Px)(z:l.length<=cap)(D:l.length<=9223372036854775807)(q:∀a∈l,a.1.length<=1000000/\a.2.length<=1000000)(u:RS I A 2 l.length (X2 Gx l))(N:La)(d:Aa B w I N):
  Ce B I N 424 [.slice A l.length cap] w (.bool (hN [] l)):=by
 refine gG 4 (.lk [0,5,6] (σ:=Nat) (λi _m=>(7,Ab (i:Nat))::_m) (λi w=>i<=l.length/\hN [] l=hN (l.take i) (l.drop i)/\Aa B w I N) (λi=>l.length-i) 0 ⟨Y5 _,O,d⟩ ?_);rintro i w ⟨hi,f,d⟩;refine gN 1 ?_ ?_<;>intro C
 ·obtain⟨a,k⟩:∃a,l[i]?=some a:=⟨_,Y2 om⟩
  obtain⟨p,o,hx⟩:=Bv (cells:=Gx) (λ_=>rfl) u k;subst o;have j:=q a (Y8 k);have n:l.drop i=a::l.drop (i+1):=by rw[Yq om,(Y1.1 k).2]
  rw[n]at f;have t:(l.take i).length=i:=by rw[Yj];omega
  refine gH 8 ?_;intro g w d;refine gE 0 (Xr4 a.1 j.1) ?_;intro w d;refine gH 4 (.AA (T:=λw=>Aa B w I (Ad g [S a.1,S a.2] 99::N)) O O O func425 O (λc=>(X4 (.gd c O) X3)) O (λc=>Xjz a.2 j.2 _ d) d ?_);clear d;rintro w d;refine gH 5 (.Am O O (λc=>.Fq (.gd c O) (.gd c O) om om Ov JN) O ?_);rw[show((i:Nat):Int).toNat=(l.take i).length by rw[t];(try rw[Yh]),wk];have m:∀w,Aa B w I (Ad g [S a.1,S a.2] 99::N)->Calls prog 197 #[.slice (some p) (l.take i).length cap,.func (.func 437) #[] [ptr g 0].toArray] w (AY λv w'=>v=.bool ((l.take i).any λb=>b.1==a.1)/\Aa B w' I (Ad g [S a.1,S a.2] 99::N)):=λw d=>Xbk (some p) cap (l.take i) om (λb=>b.1==a.1) 437 _ func437 O [ptr g 0] (Ad g [S a.1,S a.2] 99::N) (λw h=>Ob (cells:=Gx) (λ_=>rfl) h (fI u i om)) (λr E w h=>Xz4 r a g N h) d
  refine gH 1 (.AA (T:=λw=>Aa B w I (Ad g [S a.1,S a.2] 99::N)) O O O func197 O (λc=>(X4 (.gd c O) (X4 (.gd c O) X3))) O (λc=>m w d) d ?_);clear d;rintro w d;refine gM 1 ?_ ?_<;>intro e x
  ·refine gG 1 (⟨Ye Value.bool ?_,d.s⟩);rw[f,hN]
   revert e
   cases QZ a.1<;>cases ic a.2<;>cases((l.take i).any λb=>b.1==a.1)<;>simp
  refine gG 2 (rd (i+1) ⟨om,?_,d.y 0 1⟩);rw[f,hN,Yv,k,DO];simp only[G3,ve]at e
  rw[e.1.1,e.1.2,e.2];rfl
 exact gG 1 ⟨Ye Value.bool (by rw[f,Yo om];rfl),d⟩
theorem x_{m:Px}(h:MK[i]?=some m):(sx.drop (i*2)).take 2=[S m.1,S m.2]/\(∃c,m.1=[c])/\m.2.length<=6/\([m.1.headD 0]==m.2)=false:=by
 match i,h with
 | 0,h=>cases h;exact⟨O,⟨_,O⟩,de,de⟩
 | 1,h=>cases h;exact⟨O,⟨_,O⟩,de,de⟩
 | 2,h=>cases h;exact⟨O,⟨_,O⟩,de,de⟩
 | 3,h=>cases h;exact⟨O,⟨_,O⟩,de,de⟩
 | 4,h=>cases h;exact⟨O,⟨_,O⟩,de,de⟩
 | i+5,h=>simp[MK]at h
theorem me(s:Lu)(e:s.length<=10000):∀(i:Nat),i<=5->((MK.take i).foldl IY s).length<=100000000:=by
 have h:∀(i:Nat),i<=5->((MK.take i).foldl IY s).length<=6^i*s.length:=by
  intro i
  induction i with
  | zero=>intro _;simp
  | succ i f =>
   intro hi;obtain⟨m,d⟩:∃m,MK[i]?=some m:=⟨_,Y2 (by show i<5;omega)⟩
   rw[Yv,d,DO,K9];show(LR _ m.2 _).length<=_
   have b:=Xxg (m.1.headD 0) m.2 (x_ d).2.2.1 ((MK.take i).foldl IY s);have a:=f om;have c:6*((MK.take i).foldl IY s).length<=6*(6^i*s.length):=Nat.mul_le_mul_left 6 a;rw[LX]
   calc _<=_:=b
    _<=_:=c
    _=_:=by rw[<-I3,Fg 6]
 intro i hi;have b:=h i hi;have a:6^i<=6^5:=VA de hi;have c:6^i*s.length<=6^5*10000:=vj a e;omega
theorem Xnt(s:Lu)(m:Px)(g:MK[i]?=some m)(h:s.length<=100000000)(d:Kx I)(N:La)(e:Aa B w I N):Calls prog 426 #[S s,S m.1,S m.2] w (AY λv w'=>v=S (IY s m)/\Aa B w' I N):=by
 obtain⟨_,⟨c,f⟩,b,a⟩:=x_ g;unfold IY;rw[f]at a ⊢;exact Xnu s m.2 c h b a d N e
theorem Xhp(s:Lu)(g:s.length<=10000)(e:Kx I)(N:La)(a:Aa B w I N):
  Ce B I N 400 [S s] w (S (Ep s)):=by
 refine gG 1 (.val (.D7 (.of O) a e.FY isAgg506 sizeOf506 O (λ_ _ h=>h)) O (gG 1 (.lk [5] (σ:=Nat) (λi _m=>(0,S ((MK.take i).foldl IY s))::(6,Ab (i:Nat))::_m) (λi w=>i<=5/\Aa B w I N) (λi=>5-i) 0 ⟨Y5 _,a⟩ ?_)));rintro i w ⟨hi,a⟩;refine gN 1 ?_ ?_<;>intro f
 ·obtain⟨m,c⟩:∃m,MK[i]?=some m:=⟨_,Y2 (by show i<5;omega)⟩
  have d:=x_ c;have b:((MK.take i).foldl IY s).length<=100000000:=me s g i om;refine gG 0 ?_;refine .val (Ex.R5 (m:=5) (us:=[S m.1,S m.2]) (.of O) (.of O) om om underlying506 JN F3 (by rw[Yh];exact d.1) (by rw[Yh];show i*2+2<=10;omega)) O ?_;refine gH 7 ?_;intro j w a;refine gE 0 (Xnt _ m c b e) ?_;intro w a;refine gG 3 (⟨i+1,⟨?_,O,O,trivial⟩,⟨om,a.y 0 1⟩,om⟩);show some (S _)=some _
  rw[Yv,c,DO,K9];rfl
 refine gG 2 (⟨?_,a⟩);rw[show i=5 by omega,<-Xvn];rfl
def CC:Nat->Im->List Value->Nd->Prop
 | 0,_,_,_=>False
 | d+1,I,cs,n=>n.name.length<=10000/\n.text.length<=10000/\n.attrs.length<=10000/\n.kids.length<=10000/\(∀a∈n.attrs,a.1.length<=10000/\a.2.length<=10000)/\∃(b:Option Addr) (c:Nat) (ka:Option Addr) (ck:Nat) (xs:List (List Value)),cs=[S n.name,.slice b n.attrs.length c,S n.text,.slice ka n.kids.length ck]/\n.attrs.length<=c/\n.kids.length<=ck/\RS I b 2 n.attrs.length (X2 Gx n.attrs)/\RS I ka 4 n.kids.length xs.flatten/\xs.length=n.kids.length/\(∀x∈xs,x.length=4)/\∀(i:Nat) x k,xs[i]?=some x->n.kids[i]?=some k->CC d I x k
theorem CC.mono(f:Le I J):∀{d:Nat} {cs:Lv} {n:Nd},CC d I cs n->CC d J cs n
 | 0,_,_,h=>h
 | d+1,cs,n,h=>by
  obtain⟨l,m,o,p,q,g,j,ka,ck,xs,r,s,t,u,a,b,c,e⟩:=h;exact⟨l,m,o,p,q,g,j,ka,ck,xs,r,s,t,u.mono f,a.mono f,b,c,λi x k hx v=>(e i x k hx v).mono f⟩
theorem CC.cells:∀{d:Nat} {cs:Lv} {n:Nd},CC d I cs n->∃(s1:Lu) (a:Oa) (g e:Nat) (j:Lu) (b:Oa) (i f:Nat),cs=[S s1,.slice a g e,S j,.slice b i f]
 | 0,_,_,h=>h.elim
 | d+1,cs,n,h=>by
  obtain⟨m,o,p,q,r,k,l,ka,ck,xs,c,_⟩:=h;exact⟨_,_,_,_,_,_,_,_,c⟩
theorem XM{xs:List Lv}(c:RS I ka 4 m xs.flatten)(e:xs.length=m)(b:∀x∈xs,x.length=4){x:Lv}(hx:xs[i]?=some x):∃q,ka=some q/\At I (q.add (i*4)) x:=by
 obtain⟨q,rfl,d⟩:=c.2 (oh ((Y1.1 hx).1));refine⟨q,O,?_⟩;have a:=tu (d.add (i*4)) 4;rw[aZ xs b i x hx]at a;exact a
theorem Xj5{f:Int->Nd->Option Int}(b:∀l n m,0<=l->f l n=some m->0<=m/\m<=l):∀(ks:List Nd) (l m:Int),0<=l->bE f l ks=some m->0<=m/\m<=l
 | [],l,m,a,h=>by cases h;exact⟨a,vr _⟩
 | k::r,l,m,a,h=>by
  rw[bE]at h;split at h
  ·cases h
  ·rename_i g c
   have d:=b _ _ _ a c;have e:=Xj5 b r g m d.1 h;exact⟨e.1,om⟩
theorem Xvq:∀(d:Nat) (l:Int) (n:Nd) (m:Int),0<=l->FO d l n=some m->0<=m/\m<=l
 | 0,_,_,_,_,h=>by cases h
 | d+1,l,n,m,a,h=>by
  rw[FO]at h;split at h
  ·cases h
  ·rename_i b
   have:=Xj5 (λl n m a h=>Xvq d l n m a h) n.kids (l-1) m om h
   exact⟨this.1,om⟩
theorem Xzo:∀(d:Nat) (n:Nd) (cs:Lv) (f left:Int) (o:Nat) (B w:Wo) (I:Im) (N:La),1<=f->f+(d:Int)=9->0<=left->left<=1000->CC d I cs n->Aa B w I (Ad o [Ab (left)] 3::N)->
  Cz 399 [.agg cs.toArray,Ab f,ptr o 0] w λv w'=>∃l2,v=.bool (FO d left n).isSome/\(FO d left n=none\/FO d left n=some l2)/\Aa B w' I (Ad o [Ab (l2)] 3::N):=by
 intro d
 induction d with
 | zero=>intro n cs f left o B w I N _ _ _ _ L;exact L.elim
 | succ d ih =>
  intro n cs f left o B w I N hp hd h0 h1 L c;obtain⟨an,ao,aj,am,Q,E,F,ka,ck,xs,rfl,U,ak,M,P,Z,Y,K⟩:=L;refine gH 14 ?_;intro G w c;refine gH 5 (.AA (T:=λw=>Aa B w I (Ad G [S n.name,.slice E n.attrs.length F,S n.text,.slice ka n.kids.length ck] 371::Ad o [Ab (left-1)] 3::N)) O O O func423 O (λg=>(X4 (.gd g O) X3)) O (λg=>Xr4 n.name om _ c) c ?_);clear c;rintro w c;refine gH 5 (.AA (T:=λw=>Aa B w I (Ad G [S n.name,.slice E n.attrs.length F,S n.text,.slice ka n.kids.length ck] 371::Ad o [Ab (left-1)] 3::N)) O O O func424 O (λg=>(X4 (.gd g O) X3)) O (λg=>NI E F n.attrs U om (λa h=>by have:=Q a h;omega) M _ c) c ?_);clear c;rintro w c;refine gH 5 (.AA (T:=λw=>Aa B w I (Ad G [S n.name,.slice E n.attrs.length F,S n.text,.slice ka n.kids.length ck] 371::Ad o [Ab (left-1)] 3::N)) O O O func425 O (λg=>(X4 (.gd g O) X3)) O (λg=>Xjz n.text om _ c) c ?_);clear c;rintro w c;refine gM 13 ?_ ?_<;>intro b ac
  ·refine gG 1 ?_;have u:FO (d+1) left n=none:=by
    rw[FO,Y7];simp only[I0,Yb,iN,decide_eq_true_eq]at b
    rcases b with (((h|h)|h)|h)|h
    ·rcases h with h|h
     ·push_cast at hd;omega
     ·left;omega
    ·exact .inr (.inl h)
    ·exact .inr (.inr (.inl h))
    ·exact .inr (.inr (.inr (.inl h)))
    ·refine .inr (.inr (.inr (.inr ⟨su h.1,λe=>?_⟩)));have h2:=h.2;rw[e]at h2;simp at h2
   refine⟨left-1,by rw[u];rfl,.inl u,c.s⟩
  refine gG 4 ?_;simp only[G3,iI,ve,decide_eq_false_iff_not]at b
  have u:FO (d+1) left n=bE (FO d) (left-1) n.kids:=by
   rw[FO,Y3];rintro(e|e|e|e|⟨e1,e2⟩)
   ·omega
   ·rw[e]at b;simp at b
   ·rw[e]at b;simp at b
   ·rw[e]at b;simp at b
   ·rcases b.2 with H|H
    ·simp at H;exact e1 H
    ·have:=LU.2 e2;omega
  replace c:Aa B w I (Ad o [Ab (left-1)] 3::N):=c.drop (k:=0) O;refine .lk [1,2,52,53] (σ:=Nat×Int) (λ(i,l) _m=>(54,Ab (i:Nat))::_m) (λ(i,l) w=>i<=n.kids.length/\bE (FO d) (left-1) n.kids=bE (FO d) l (n.kids.drop i)/\0<=l/\l<=1000/\Aa B w I (Ad o [Ab (l)] 3::N)) (λ(i,l)=>n.kids.length-i) (0,left-1) ⟨Y5 _,O,om,om,c⟩ ?_;rintro⟨i,l⟩ w ⟨hi,r,t,J,c⟩;refine gN 1 ?_ ?_<;>intro ad
  ·obtain⟨k,hk⟩:∃k,n.kids[i]?=some k:=⟨_,Y2 om⟩
   obtain⟨x,D⟩:∃x,xs[i]?=some x:=⟨_,Y2 om⟩
   have A:=K i x k D hk;obtain⟨q,X,hx⟩:=XM P Z Y D;subst X;obtain⟨s1,a1,n1,m1,s2,a2,n2,m2,R⟩:=A.cells;subst R;have C:n.kids.drop i=k::n.kids.drop (i+1):=by rw[Yq om,(Y1.1 hk).2]
   refine gH 8 ?_;intro b8 w c;refine gP 0 [1] (ih k _ _ l o B _ I _ om (by push_cast at hd;omega) t J A) ?_;rintro _ w ⟨l2,rfl,V,c⟩;refine gM 1 ?_ ?_<;>intro j ae
   ·refine gG 1 ?_;have p:FO d l k=none:=by
     cases he:FO d l k with
     | none=>rfl
     | some z=>rw[he]at j;simp at j
    have m:FO (d+1) left n=none:=by rw[u,r,C,bE,p]
    exact⟨l2,by rw[m];rfl,.inl m,c.s⟩
   refine gG 2 ?_;have p:FO d l k=some l2:=by
    rcases V with e|e
    ·rw[e]at j;simp at j
    ·exact e
   have W:=Xvq d l k l2 t p;refine Br (i+1,_) O ⟨om,?_,W.1,om,(c.y 1 1)⟩;rw[r,C,bE,p]
  refine gG 1 ?_;have m:FO (d+1) left n=some l:=by rw[u,r,Yo om];rfl
  exact⟨l,by rw[m];rfl,.inr m,c⟩
theorem NH(n:Nd)(cs:Lv)(c:CC 8 I cs n)(N:La)(a:Aa B w I N):
  Ce B I N 342 [.agg cs.toArray] w (.bool (FO 8 200 n).isSome):=by
 obtain⟨s1,f,k,i,m,g,l,j,b⟩:=c.cells;subst b;refine gH 5 ?_;intro b1 d w a;refine gP 0 [] (Xzo 8 n _ 1 200 d B _ I _ de de de de c) ?_;rintro _ w ⟨h,rfl,e,a⟩;exact gG 1 ⟨O,a.s⟩
theorem dN{l:List Px}(b:RS I a 2 l.length (X2 Gx l)){x:Px}(hx:l[i]?=some x):∃q,a=some q/\At I (q.add (i*2)) [S x.1,S x.2]:=Bv (cells:=Gx) (s:=2) (λ_=>rfl) b hx
theorem aV:∀(d:Nat) (n:Nd) (cs:Lv) (e:Nat) (p v:Va) (b:Lu) (B w:Wo) (I:Im) (N:La),Kx I->CC d I cs n->(p=.pointer none\/p=ptr e 0)->(b++ES d n).length<=1000000->Aa B w I (Ad e [p,v] 68::Ao 5 1 v (b).length (Aj (b))::N)->
  Calls prog 343 #[ptr e 0,.agg cs.toArray] w (AY λu w'=>u=.tuple #[]/\∃Z,Aa B w' I (Ad e [ptr e 0,Z] 68::Ao 5 1 Z (b++ES d n).length (Aj (b++ES d n))::N)):=by
 intro d
 induction d with
 | zero=>intro n cs e p v b B w I N _ C;exact C.elim
 | succ d ih =>
  intro n cs e p v b B w I N y C hp U c;obtain⟨ak,am,ad,aj,G,Q,T,ka,ck,xs,rfl,ae,af,D,E,M,L,A⟩:=C;have j:(b++([60]++n.name)++(n.attrs.map JJ).flatten).length<=1000000:=by simp only[ES,Y0,Y4,Yi]at U ⊢;omega
  have o:((b++([60]++n.name)++(n.attrs.map JJ).flatten)++([62]++Ep n.text)++(n.kids.map (ES d)).flatten).length<=1000000:=by simp only[ES,Y0,Y4,Yi]at U ⊢;omega
  refine gH 5 ?_;intro R w c;refine gC 0 (Xo e p v b ([60]++n.name) hp _ (c.x [2,2]) (by simp only[Y0,Y4,Yi]at j ⊢;omega)) ?_;rintro _ w ⟨rfl,v1,c⟩;try dsimp only[List.eraseIdx]at c
  have g:=c;clear c;refine gG 4 (.lk [0,3,14,15] (σ:=Nat×Lu×Va) (λ(i,q,v) _m=>(16,Ab (i:Nat))::_m) (λ(i,q,v) w=>i<=n.attrs.length/\q++((n.attrs.drop i).map JJ).flatten=(b++([60]++n.name)++(n.attrs.map JJ).flatten)/\Aa B w I (Ad e [ptr e 0,v] 68::Ao 5 1 v (q).length (Aj (q))::Ad R [S n.name,.slice Q n.attrs.length T,S n.text,.slice ka n.kids.length ck] 371::N)) (λ(i,q,v)=>n.attrs.length-i) (0,b++([60]++n.name),v1) ⟨Y5 _,O,g⟩ ?_);rintro⟨i,q,v⟩ w ⟨hi,f,c⟩;clear g;refine gN 1 ?_ ?_<;>intro W
  ·obtain⟨a,F⟩:∃a,n.attrs[i]?=some a:=⟨_,Y2 om⟩
   obtain⟨qa,l,hx⟩:=dN D F;subst l;have V:=G a (Y8 F);have ah:=p7 a.2;have h:n.attrs.drop i=a::n.attrs.drop (i+1):=by rw[Yq om,(Y1.1 F).2]
   have r:q.length<=1000000:=by have:=Ye List.length f;simp only[Y0]at this j;omega
   refine gG 4 ?_;intro b5 w c;refine gD [0] [] [0,1,2,3,4,5,6,7,8,9,10] ?_;intro w c;refine gE 7 (Xhp a.2 om y) ?_;intro w c;refine gC 2 (Xo e (ptr e 0) v q (((([32]++a.1)++[61,34])++Ep a.2)++[34]) (.inr O) _ (c.x [2,2]) (by simp only[Y0,Y4,Yi];omega)) ?_;rintro _ w ⟨rfl,P,c⟩;try dsimp only[List.eraseIdx]at c
   refine gG 2 (rd (i+1,q++(((([32]++a.1)++[61,34])++Ep a.2)++[34]),P) ⟨om,?_,(c.z [3,2,2] 3 1)⟩);rw[<-f,h];simp[JJ]
  have J:q=(b++([60]++n.name)++(n.attrs.map JJ).flatten):=by rw[<-f,Yo om];simp
  subst J;have ai:=p7 n.text;refine gE 3 (Xhp n.text om y) ?_;intro w c;refine gC 1 (Xo e (ptr e 0) v (b++([60]++n.name)++(n.attrs.map JJ).flatten) ([62]++Ep n.text) (.inr O) _ (c.x [1,1]) (by simp only[Y0,Y4,Yi]at j ⊢;omega)) ?_;rintro _ w ⟨rfl,v3,c⟩;try dsimp only[List.eraseIdx]at c
  have g:=c;clear c;refine gG 4 (.lk [0,3,39,40] (σ:=Nat×Lu×Va) (λ(i,q,v) _m=>(41,Ab (i:Nat))::_m) (λ(i,q,v) w=>i<=n.kids.length/\q++((n.kids.drop i).map (ES d)).flatten=((b++([60]++n.name)++(n.attrs.map JJ).flatten)++([62]++Ep n.text)++(n.kids.map (ES d)).flatten)/\Aa B w I (Ad e [ptr e 0,v] 68::Ao 5 1 v (q).length (Aj (q))::Ad R [S n.name,.slice Q n.attrs.length T,S n.text,.slice ka n.kids.length ck] 371::N)) (λ(i,q,v)=>n.kids.length-i) (0,(b++([60]++n.name)++(n.attrs.map JJ).flatten)++([62]++Ep n.text),v3) ⟨Y5 _,O,g⟩ ?_);rintro⟨i,q,v⟩ w ⟨hi,f,c⟩;clear g;refine gN 1 ?_ ?_<;>intro X
  ·refine gG 0 ?_;obtain⟨k,Y⟩:∃k,n.kids[i]?=some k:=⟨_,Y2 om⟩
   obtain⟨x,t⟩:∃x,xs[i]?=some x:=⟨_,Y2 om⟩
   have m:=A i x k t Y;obtain⟨qa,l,hx⟩:=XM E M L t;subst l;obtain⟨s1,a1,n1,m1,s2,a2,n2,m2,H⟩:=m.cells;subst H;have h:n.kids.drop i=k::n.kids.drop (i+1):=by rw[Yq om,(Y1.1 Y).2]
   have r:(q++ES d k).length<=1000000:=by have:=Ye List.length f;rw[h]at this;simp only[Yw,Gg,Y0]at this o ⊢;omega
   refine gH 6 ?_;intro b7 w c;refine gP 0 [2,2] (ih k [S s1,.slice a1 n1 m1,S s2,.slice a2 n2 m2] e (ptr e 0) v q B _ I _ y m (.inr O) r) ?_;rintro _ w ⟨rfl,P,c⟩;refine gG 2 (rd (i+1,q++ES d k,P) ⟨om,?_,(c.z [3,2,2] 3 1)⟩);rw[<-f,h];simp[JJ]
  refine gG 0 ?_;have K:q=((b++([60]++n.name)++(n.attrs.map JJ).flatten)++([62]++Ep n.text)++(n.kids.map (ES d)).flatten):=by rw[<-f,Yo om];simp
  subst K;refine gC 5 (Xo e (ptr e 0) v ((b++([60]++n.name)++(n.attrs.map JJ).flatten)++([62]++Ep n.text)++(n.kids.map (ES d)).flatten) (([60,47]++n.name)++[62]) (.inr O) _ (c.x [1,1]) (by simp only[Y0,Y4,Yi]at o ⊢;omega)) ?_;rintro _ w ⟨rfl,v5,c⟩;try dsimp only[List.eraseIdx]at c
  refine gG 0 ?_;have he:((b++([60]++n.name)++(n.attrs.map JJ).flatten)++([62]++Ep n.text)++(n.kids.map (ES d)).flatten)++(([60,47]++n.name)++[62])=b++ES (d+1) n:=by simp[ES]
  rw[he]at c;exact⟨O,v5,c.s⟩
theorem Xjy(n:Nd)(cs:Lv)(g:Kx I)(c:CC 8 I cs n)(i:(ES 8 n).length<=1000000)(N:La)(a:Aa B w I N):
  Ce B I N 256 [.agg cs.toArray] w (.tuple #[S (if(FO 8 200 n).isSome=true then ES 8 n else[]),Ab (if(FO 8 200 n).isSome=true then 0 else 1)]):=by
 obtain⟨s1,l,q,o,t,m,r,p,d⟩:=c.cells;subst d;refine gH 4 ?_;intro b1 w a;refine gE 0 (NH n _ c) ?_;intro w a;refine gM 1 ?_ ?_<;>intro b j
 ·refine gG 2 (⟨?_,a.s⟩);rw[Y3 (su b),Y3 (su b)]
 refine gG 1 ?_;intro f w a;replace a:=(a.Al 5 1).pick 1 O;try dsimp only[List.eraseIdx]at a
 refine gP 1 [1,1] (aV 8 n _ f _ _ [] B _ I _ g c (.inl O) (by rw[CS];exact i)) ?_;rintro _ w ⟨rfl,k,a⟩;rw[CS]at a;have e:ES 8 n≠[]:=by simp[ES]
 refine gP 0 [] (nt f _ k _ (λh=>Aw h e) _) ?_;rintro _ w ⟨rfl,a⟩;refine gG 2 (⟨?_,a.s⟩);rw[Y7 (su b),Y7 (su b)]
end Go.Proofs.W9
namespace Xm
open Ul Pc Gk DS Tk Tr
def Ut:Lu:=[115,97,109,108,112,58,76,111,103,111,117,116,82,101,113,117,101,115,116]
def ng:Lu:=[73,68]
def nh:Lu:=[76,82,45]
def np:Lu:=[86,101,114,115,105,111,110]
def nk:Lu:=[50,46,48]
def Qe:Lu:=[73,115,115,117,101,73,110,115,116,97,110,116]
def ni:Lu:=[115,97,109,108,58,78,97,109,101,73,68]
def I_:Lu:=[64,78,79,84,95,85,83,69,68,64]
def nj:Lu:=[115,97,109,108,112,58,83,101,115,115,105,111,110,73,110,100,101,120]
def M1:Lu:=[60,115,97,109,108,112,58,76,111,103,111,117,116,82,101,113,117,101,115,116,32,73,68,61,34,76,82,45]
def M2:Lu:=[34,32,86,101,114,115,105,111,110,61,34,50,46,48,34,32,73,115,115,117,101,73,110,115,116,97,110,116,61,34]
def M3:Lu:=[34,62,60,115,97,109,108,58,78,97,109,101,73,68,62,64,78,79,84,95,85,83,69,68,64,60,47,115,97,109,108,58,78,97,109,101,73,68,62,60,115,97,109,108,112,58,83,101,115,115,105,111,110,73,110,100,101,120,62]
def M4:Lu:=[60,47,115,97,109,108,112,58,83,101,115,115,105,111,110,73,110,100,101,120,62,60,47,115,97,109,108,112,58,76,111,103,111,117,116,82,101,113,117,101,115,116,62]
def KI(c:Ui):Bool:=Iw c||(48<=c&&c<=57)||c==45
def QF(s:Lu):Prop:=∀c∈s,KI c=true
theorem Xqx(c:Ui)(h:KI c=true):(c≠38/\c≠60/\c≠62/\c≠34/\c≠39)/\mI c=true/\c≠32:=by
 have:=Xj (p:=λc=>!KI c||((c !=38&&c !=60&&c !=62&&c !=34&&c !=39)&&mI c&&c !=32)) dk c
 rw[h]at this;simp only[vk,dD,Yb,bne_iff_ne,ne_eq]at this
 obtain⟨⟨⟨⟨⟨⟨a,b⟩,d⟩,e⟩,f⟩,g⟩,i⟩:=this;exact⟨⟨a,b,d,e,f⟩,g,i⟩
theorem lV{c:Ui}{d:Nat}(h:hx c=some d):KI c=true:=by
 have:=Xj (p:=λc=>!(hx c).isSome||KI c) dk c
 rw[h]at this;simpa using this
theorem Pg:∀(s:Lu) (n d:Nat),EM n s=some d->QF s
 | [],_,_,_=>λc a=>by simp at a
 | c::r,n,d,h=>by
  rw[EM]at h;cases a:hx c with
  | none=>rw[a]at h;cases h
  | some x =>
   rw[a]at h;intro y b;rcases Ys.1 b with rfl|b
   ·exact lV a
   ·exact Pg r _ _ h y b
theorem SJ{s:Lu}{d:Nat}(h:Xi s=some (k,d)):QF s:=by
 unfold Xi at h;split at h
 ·cases h
 ·rename_i l
  obtain⟨x,hx,e⟩:=Gf.1 h;have m:=Po (BD [45] s);have j:QF (BD [45] s):=by
   rw[uk l]
   have:=(by decide:∀k:Fin 7,∀c∈pre k.val,KI c=true) ⟨LC (BD [45] s),om⟩
   exact this
  unfold Oc at hx;split at hx
  ·rename_i f
   have i:=Pg _ _ _ hx;intro c b;rw[<-gO [45] s]at b;rcases Yt.1 b with b|b
   ·exact j c b
   ·cases g:Xu [45] s with
    | nil=>rw[g]at f;simp at f
    | cons a r =>
     rw[g]at b i;rcases Ys.1 b with rfl|b
     ·have:=xf (BF:=[45]) (c:=c) (by rw[g];rfl)
      have:c=45:=su this
      rw[this];decide
     ·exact i c b
  ·cases hx
theorem O0(n:Nat):QF (Go.Lib.decDigits n):=by
 intro c a
 have:=Dy.1 (ND n).2.1 c a
 unfold KI;unfold K3 at this;rw[this];simp
theorem QF.Ep{s:Lu}(h:QF s):Ep s=s:=Xok λc a=>(Xqx c (h c a)).1
theorem QF.sh{s:Lu}(h:QF s):ic s=true:=Dy.2 λc a=>(Xqx c (h c a)).2.1
theorem XY{t:Lu}(h:QF t):QF (nh++t):=λc a=>by
 rcases Yt.1 a with a|a
 ·exact(by decide:∀c∈nh,KI c=true) c a
 ·exact h c a
def iy(t:Lu)(n:Nat):Nd:=.mk Ut [(ng,nh++t),(np,nk),(Qe,Go.Lib.decDigits n)] [] [.mk ni [] I_ [],.mk nj [] t []]
def TC(t:Lu)(n:Nat):Lu:=M1++t++M2++Go.Lib.decDigits n++M3++t++M4
theorem Xy0{t:Lu}(h:QF t)(n:Nat):ES 8 (iy t n)=TC t n:=by
 have a:=h.Ep;have b:=(XY h).Ep;have c:=(O0 n).Ep;have d:Ep nk=nk:=by decide+kernel
 have e:Ep I_=I_:=by decide+kernel
 have f:Ep []=[]:=rfl;simp only[ES,iy,Nd.name,Nd.attrs,Nd.text,Nd.kids,Yw,EK,JJ,a,b,c,d,e,f]
 unfold TC Ut ng nh np nk Qe ni I_ nj M1 M2 M3 M4
 simp
theorem ej{t:Lu}(h:QF t)(n:Nat):FO 8 200 (iy t n)=some 197:=by
 have a:=h.sh;have b:=(XY h).sh;have c:=(O0 n).sh;have g:QZ Ut=true:=by decide+kernel
 have i:QZ ni=true:=by decide+kernel
 have j:QZ nj=true:=by decide+kernel
 have k:ic I_=true:=by decide+kernel
 have l:ic []=true:=rfl;have m:QZ ng=true:=by decide+kernel
 have o:QZ np=true:=by decide+kernel
 have p:QZ Qe=true:=by decide+kernel
 have q:ic nk=true:=by decide+kernel
 have d:(ng==np)=false:=de
 have e:(ng==Qe)=false:=de
 have f:(np==Qe)=false:=de
 simp[FO,bE,iy,Nd.name,Nd.attrs,Nd.text,Nd.kids,hN,a,b,c,g,i,j,k,l,m,o,p,q,d,e,f]
structure Nt where
 ticket:Lu
 url:Lu
 tries:Int
 next:Int
deriving DecidableEq
def jR(t:Lu):Bool:=R8 t 2||R8 t 3
def DD(n:Nt):Bool:=jR n.ticket&&decide ((n.url.length:Int)<=100)&&decide (0<=n.tries)&&decide (n.tries<=9)&&decide (0<=n.next)&&decide (n.next<=1099511627776)
theorem gL{t:Lu}(h:jR t=true):QF t/\t.length<=23:=by
 unfold jR R8 at h;cases a:Xi t with
 | none=>rw[a]at h;simp at h
 | some x=>obtain⟨k,d⟩:=x;exact⟨SJ a,(cL a).2.2.2.1⟩
end Xm
namespace Go.Proofs.W9
open Gk Ul Pc DS Xm Tr
open Tryz
theorem Xor{α:Type}(b:α->Bool):∀(l:List α) (k:Nat),(EP b l k=-1/\∀x∈l,b x=false)\/∃j x,EP b l k=((k+j:Nat):Int)/\l[j]?=some x/\b x=true/\∀(i:Nat) y,i<j->l[i]?=some y->b y=false
 | [],_=>.inl ⟨O,by simp⟩
 | a::l,k=>by
  rw[EP];cases e:b a with
  | true=>exact .inr ⟨0,a,by simp,O,e,λ_ _ h=>Aw h om⟩
  | false =>
   rcases Xor b l (k+1)with⟨c,d⟩|⟨j,x,c,d,g,m⟩
   ·refine .inl ⟨su c,λx hx=>?_⟩;rcases Ys.1 hx with rfl|hx
    ·exact e
    ·exact d x hx
   ·refine .inr ⟨j+1,x,by simp only[T6,if_false];rw[c];congr 1;omega,su d,g,λi y hi f=>?_⟩;cases i with
    | zero=>cases f;exact e
    | succ i=>exact m i y om (su f)
open Tk
def Lk:List Lu:=[[],pre 1,pre 2,pre 3,pre 4,pre 5,pre 6]
def AR(I:Im):Prop:=At I (ad 0 0) (Lk.map S)
theorem AR.mono(h:AR I)(a:Le I J):AR J:=At.mono h a
theorem fy(h:k<7):(((Lk.map S).drop (k*1)))[0]?=some (S (pre k)):=by
 match k,h with
 | 0,_=>rfl
 | 1,_=>rfl
 | 2,_=>rfl
 | 3,_=>rfl
 | 4,_=>rfl
 | 5,_=>rfl
 | 6,_=>rfl
def IX(k:Int):Lu:=if k<1\/6<k then[]else pre k.toNat
theorem Ex.B1{g:Option (Nat×Bool)}{t e:TypeId}{x:Operand}{s:Nat}(hx:Ev n L x (.pointer (some p)))(f:P.underlying t=some (.array m e))(j:∀w,(Go.sizeOf e).run P w=.ok s w):
  Ex P n L w ⟨d,.slice t x none none none,ty,pos,af,g⟩ (.slice (some (if m=0 then p else p.add (0*s))) (m-0) (m-0)) w:=λa i=>by
 obtain⟨b,c⟩:=pT f;have h:=run_sliceAt_array_all (P:=P) w t p (by rw[b,c];exact f);rw[b,c,j]at h;simp[execOp,hx a i,h,slicedAt]
def Ig(p:List UInt8):List (List UInt8)->Nat->Int
 | [],_=>-1
 | x::r,i=>if p=x then(i:Int)else Ig p r (i+1)
theorem xi(p:Lu):∀(n:Nat) (r:List Lu) (i:Nat),(∀(j:Nat) x,j<n->r[j]?=some x->p≠x)->Ig p r i=Ig p (r.drop n) (i+min n r.length)
 | 0,r,i,_=>by simp
 | n+1,[],i,_=>by simp[Ig]
 | n+1,x::r,i,h=>by
  rw[Ig,Y3 (h 0 x om O),xi p n r (i+1) (λj y b a=>h (j+1) y om (su a)),Em,Y4]
  congr 1
  omega
theorem Xw6{p:Lu}{l:List Lu}(h:∀(j:Nat) x,j<i->l[j]?=some x->p≠x)(a:l[i]?=some p):Ig p l 0=(i:Int):=by
 have hi:=(Y1.1 a).1;rw[xi p i l 0 h,Yl,JT om,Yq hi,(Y1.1 a).2,Ig,Y7 O]
theorem Xpb{p:Lu}{l:List Lu}(h:∀(j:Nat) x,l[j]?=some x->p≠x):Ig p l 0=-1:=by
 rw[xi p l.length l 0 (λj x _ hx=>h j x hx),VC];rfl
theorem tD(p:Lu):(1<=Ig p Lk 0->LC p≠0/\Ig p Lk 0=(LC p:Int))/\(¬ 1<=Ig p Lk 0->LC p=0):=by
 unfold Lk LC;simp only[Ig]
 by_cases g:p=[]
 ·subst g;exact⟨λh=>by simp at h,λ_=>by decide⟩
 rw[Y3 g]
 by_cases a:p=pre 1
 ·rw[Y7 a,Y7 a];exact⟨λ_=>⟨de,de⟩,λh=>Aw de h⟩
 rw[Y3 a,Y3 a]
 by_cases b:p=pre 2
 ·rw[Y7 b,Y7 b];exact⟨λ_=>⟨de,de⟩,λh=>Aw de h⟩
 rw[Y3 b,Y3 b]
 by_cases c:p=pre 3
 ·rw[Y7 c,Y7 c];exact⟨λ_=>⟨de,de⟩,λh=>Aw de h⟩
 rw[Y3 c,Y3 c]
 by_cases d:p=pre 4
 ·rw[Y7 d,Y7 d];exact⟨λ_=>⟨de,de⟩,λh=>Aw de h⟩
 rw[Y3 d,Y3 d]
 by_cases e:p=pre 5
 ·rw[Y7 e,Y7 e];exact⟨λ_=>⟨de,de⟩,λh=>Aw de h⟩
 rw[Y3 e,Y3 e]
 by_cases f:p=pre 6
 ·rw[Y7 f,Y7 f];exact⟨λ_=>⟨de,de⟩,λh=>Aw de h⟩
 rw[Y3 f,Y3 f];exact⟨λh=>Aw h de,λ_=>rfl⟩
theorem pz(a:Oa)(c:Nat)(l:List Lu)(s:l.length<=100000)(p:Lu)(o:RS I a 1 l.length (l.map S))(N:La)(f:Aa B w I N):
  Ce B I N 17 [.slice a l.length c,S p] w (Ab (Ig p l 0)):=by
 refine gG 4 (.lk [0,1,7] (σ:=Nat) (λi _m=>(8,Ab (i:Nat))::_m) (λi w=>i<=l.length/\(∀(j:Nat) x,j<i->l[j]?=some x->p≠x)/\Aa B w I N) (λi=>l.length-i) 0 ⟨Y5 _,λ_ _ h=>Aw h om,f⟩ ?_);rintro i w ⟨hi,d,f⟩;refine gN 1 ?_ ?_<;>intro r
 ·obtain⟨x,hx⟩:∃x,l[i]?=some x:=⟨_,Y2 om⟩
  obtain⟨q,rfl,t⟩:=o.2 om;have g:((l.map S).drop ((i:Int).toNat*1))[0]?=some (S x):=by rw[GI];(try rw[Yh]);rw[Ca,DG,Yu,hx];rfl
  refine gH 6 (.val (.BG (.of O) f (t.add _) Bq g) O ?_);refine gM 1 ?_ ?_<;>intro b n
  ·refine gG 2 ?_;have e:p=x:=su b
   subst e;exact⟨by rw[Xw6 d hx],f⟩
  refine gG 2 (rd (i+1) ⟨om,λj y u k=>?_,f⟩);rcases Yz j i with m|m
  ·exact d j y m k
  ·have e:j=i:=om
   subst e;rw[hx]at k;cases k;simpa using b
 exact gG 1 ⟨by rw[Xpb (λj x hx=>d j x (oh ((Y1.1 hx).1)) hx)],f⟩
theorem wx(k:Int)(c:AR I)(N:La)(a:Aa B w I N):
  Ce B I N 21 [Ab k] w (S (IX k)):=by
 refine gN 7 ?_ ?_<;>intro d
 ·exact gG 1 ⟨by rw[IX,Y7 om],a⟩
 have b:k.toNat<7:=om
 refine gH 1 (.val (.Dz (i:=k) (.of O) (.of O) om om jY A3) O (.val (.BG (.of O) a (At.add c _) Bq (fy b)) O ?_));exact gG 1 ⟨by rw[IX,Y3 om],a⟩
abbrev Lh:Lu:=[48,49,50,51,52,53,54,55,56,57,97,98,99,100,101,102]
theorem lS(c:Ui):(match hx c with|some d=>Go.Lib.indexByte Lh c=(d:Int)|none=>Go.Lib.indexByte Lh c=-1):=by
 have:=Xj (p:=λc=>match hx c with|some d=>Go.Lib.indexByte Lh c==(d:Int)|none=>Go.Lib.indexByte Lh c == -1) dk c
 cases h:hx c with
 | some d=>rw[h]at this;simpa using this
 | none=>rw[h]at this;simpa using this
theorem XC{s:Lu}{d:Nat}(hi:i<s.length)(b:EM 0 (s.take i)=some n)(a:hx (at_ s (i:Int))=some d):EM 0 (s.take (i+1))=some (16*n+d):=by
 have:s[i]?=some (at_ s (i:Int)):=LA hi
 rw[Yv,this,DO,yK,b,iP];simp only[EM,a]
theorem Pf:∀(s:Lu) (i n:Nat),i<s.length->hx (at_ s (i:Int))=none->EM n s=none
 | [],i,_,h,_=>by simp at h
 | c::r,0,n,_,h=>by
  rw[EM,show hx c=none from h]
 | c::r,i+1,n,hi,h=>by
  rw[EM];cases hx c with
  | none=>rfl
  | some d=>exact Pf r i _ (su hi) (by
    have e:at_ (c::r) ((i+1:Nat):Int)=at_ r (i:Int):=by simp[at_]
    rw[e]at h;exact h)
theorem mq{d:Nat}(a:d<16):(16*n)||| d=16*n+d:=by
 have:=uY (i:=4) a n
 simpa using this.symm
theorem Xvh(s:Lu)(q:s.length<=1000000)(N:La)(f:Aa B w I N):
  Ce B I N 48 [S s] w (match Oc s with|some d=>.tuple #[Ba (d:Nat),.bool true]|none=>.tuple #[Ba 0,.bool false]):=by
 refine gN 5 ?_ ?_<;>intro p
 ·exact gG 2 ⟨by rw[Oc,Y3 om],f⟩
 refine gG 4 (.lk [0,11] (σ:=Nat×Nat) (λ(i,n) _m=>(4,Ba (n:Nat))::(12,Ab (i:Nat))::_m) (λ(i,n) w=>i<=s.length/\EM 0 (s.take i)=some n/\n<16^i/\Aa B w I N) (λ(i,n)=>s.length-i) (0,0) ⟨Y5 _,O,de,f⟩ ?_);rintro⟨i,n⟩ w ⟨hi,k,h,f⟩;refine gN 1 ?_ ?_<;>intro l
 ·refine gC 5 (vR _ _ _) ?_;rintro _ _ ⟨rfl,rfl⟩;have b:=lS (at_ s (i:Int));refine gM 3 ?_ ?_<;>intro c m
  ·refine gG 2 (⟨?_,f⟩);have j:hx (at_ s (i:Int))=none:=by
    cases e:hx (at_ s (i:Int))with
    | none=>rfl
    | some d=>exfalso;rw[e]at b;simp only at b;rw[b]at c;simp at c;omega
   rw[Oc,Y7 om,Pf s i 0 om j]
  obtain⟨d,e⟩:∃d,hx (at_ s (i:Int))=some d:=by
   cases e:hx (at_ s (i:Int))with
   | none=>exfalso;rw[e]at b;simp only at b;rw[b]at c;simp at c
   | some d=>exact⟨d,O⟩
  rw[e]at b;simp only at b
  have g:=jb e;rw[b];have o:n<16^15:=iM h (VA de om);refine gH 1 (.val (.shl (.of O) (.of O) de de) O ?_);rw[show IntKind.u64.wrap ((n:Int)*2^(4:Int).toNat)=((16*n:Nat):Int)by rw[IntKind.wrap_u64];simp;omega];refine gH 1 (.val (.q8 (.of O) B5 Qx (by rw[IntKind.wrap_u64];omega)) O (.val (.rP (a:=16*n) om om (.of O) (.of O)) O ?_));rw[mq g];refine gG 3 (Br (i+1,_) O ⟨om,XC om k e,?_,f⟩);rw[LX];omega
 refine gG 3 (⟨?_,f⟩);rw[Yk om]at k;rw[Oc,Y7 om,k]
theorem sU(s:Lu)(j:s.length<=1000000)(i:AJ I)(g:AR I)(N:La)(b:Aa B w I N):
  Ce B I N 19 [S s] w (match Xi s with|some (k,d)=>.tuple #[Ab (k:Nat),Ba (d:Nat),.bool true]|none=>.tuple #[Ab 0,Ba 0,.bool false]):=by
 refine gE 4 (sK s 45 j i) ?_;intro w b;refine gE 8 (Xvh _ (by have:=bD [45] s;rw[Y6];omega)) ?_;intro w b;rcases rn:Oc ((Xu [45] s).drop 1)with _|d
 ·refine gG 5 (.val (Ex.B1 (m:=7) (.of O) jY A3) O (gP 1 [] (pz _ 7 _ de (BD [45] s) ⟨O,λ_=>⟨_,O,g⟩⟩ N) ?_));rintro _ w ⟨rfl,b⟩;refine gM 7 ?_ ?_<;>intro a c
  ·refine gG 3 (⟨?_,b⟩)
   have:Xi s=none:=by
    unfold Xi;split
    ·rfl
    ·rw[rn];rfl
   rw[this]
  refine gH 5 (.nil (.ret ?_));refine λ_ f=>mC f O O O ?_
  exfalso;simp at a
 refine gG 5 (.val (Ex.B1 (m:=7) (.of O) jY A3) O (gP 1 [] (pz _ 7 _ de (BD [45] s) ⟨O,λ_=>⟨_,O,g⟩⟩ N) ?_));rintro _ w ⟨rfl,b⟩;refine gM 7 ?_ ?_<;>intro a c
 ·refine gG 3 (⟨?_,b⟩);have e:=(tD (BD [45] s)).2 (by simp at a;omega);rw[Xi,Y7 e]
 refine gG 5 (⟨?_,b⟩);obtain⟨e,h⟩:=(tD (BD [45] s)).1 (by simp at a;omega);rw[Xi,Y3 e,rn,h];rfl
theorem jq(s:Lu)(a:Int)(f:s.length<=1000000)(c:AJ I)(e:AR I)(N:La)(b:Aa B w I N):
  Ce B I N 118 [S s,Ab a] w (.bool (R8 s a)):=by
 refine gE 2 (sU s f c e) ?_;intro w b;rcases ja:Xi s with _|⟨k,d⟩
 ·exact gG 14 ⟨by rw[R8,ja];rfl,b⟩
 exact gG 14 ⟨by rw[R8,ja];rfl,b⟩
theorem wW(a of:Int)(w:Wo):
  Cz 302 [Ab a,Ab of] w λv w'=>v=.bool (bS a of)/\w=w':=by
 refine gN 4 ?_ ?_<;>intro f
 ·refine gG 3 (⟨Ye Value.bool ?_,O⟩)
  (subst_vars;simp[bS];done)
 refine gN 2 ?_ ?_<;>intro g
 ·refine gG 3 (⟨Ye Value.bool ?_,O⟩)
  (subst_vars;simp[bS];done)
 refine gN 2 ?_ ?_<;>intro b
 ·refine gG 3 (⟨Ye Value.bool ?_,O⟩)
  (subst_vars;simp[bS];done)
 refine gN 2 ?_ ?_<;>intro c
 ·refine gG 3 (⟨Ye Value.bool ?_,O⟩)
  (subst_vars;simp[bS];done)
 refine gN 2 ?_ ?_<;>intro d
 ·refine gG 3 (⟨Ye Value.bool ?_,O⟩)
  (subst_vars;simp[bS];done)
 refine gN 2 ?_ ?_<;>intro e
 ·refine gG 7 (⟨Ye Value.bool ?_,O⟩)
  (subst_vars;simp[bS];done)
 refine gG 1 (⟨Ye Value.bool ?_,O⟩)
 (simp[bS, *];done)
theorem MI(c:Int)(s:Lu)(i:s.length<=1000000)(f:AJ I)(g:AR I)(N:La)(b:Aa B w I N):
  Ce B I N 210 [Ab c,S s] w (.bool (nM c s)):=by
 refine gM 3 ?_ ?_<;>intro e h
 ·refine gC 1 (wW _ 0 _) ?_;rintro _ _ ⟨rfl,rfl⟩;exact gG 1 ⟨by rw[nM,Y7 (su e)],b⟩
 refine gE 1 (sU s i f g) ?_;intro w b;rcases ja:Xi s with _|⟨k,d⟩
 ·refine gH 11 (.AA (T:=λw=>Aa B w I N) O O O func302 O (λa=>(X4 (.gd a O) (X4 (.gd a O) X3))) O (λa=>QK (wW _ _ w) b) b ?_);clear b;rintro w b;exact gG 2 ⟨by rw[nM,Y3 (su e),ja];rfl,b⟩
 refine gH 11 (.AA (T:=λw=>Aa B w I N) O O O func302 O (λa=>(X4 (.gd a O) (X4 (.gd a O) X3))) O (λa=>QK (wW _ _ w) b) b ?_);clear b;rintro w b;exact gG 2 ⟨by rw[nM,Y3 (su e),ja];rfl,b⟩
abbrev X5(r:Ah):Lv:=[Ab r.kind,S r.name,S r.parent,S r.user,S r.service,S r.url,Ab r.made,Ab r.used,Ab r.A4,.bool r.fresh]
theorem wZ(r:Ah)(e:r.name.length<=1000000)(f:r.parent.length<=1000000)(c:AJ I)(d:AR I)(N:La)(b:Aa B w I N):
  Ce B I N 123 [.agg (X5 r).toArray] w (.bool (Dh r)):=by
 refine gH 14 ?_;intro b1 w b;refine gH 14 (gH 14 (gH 12 (.AA (T:=λw=>Aa B w I (Ad b1 [Ab r.kind,S r.name,S r.parent,S r.user,S r.service,S r.url,Ab r.made,Ab r.used,Ab r.A4,.bool r.fresh] 160::N)) O O O func118 O (λa=>(X4 (.gd a O) (X4 (.gd a O) X3))) O (λa=>jq r.name r.kind e c d _ b) b ?_)));clear b;rintro w b;refine gH 6 (.AA (T:=λw=>Aa B w I (Ad b1 [Ab r.kind,S r.name,S r.parent,S r.user,S r.service,S r.url,Ab r.made,Ab r.used,Ab r.A4,.bool r.fresh] 160::N)) O O O func210 O (λa=>(X4 (.gd a O) (X4 (.gd a O) X3))) O (λa=>MI r.kind r.parent f c d _ b) b ?_);clear b;rintro w b;exact gG 2 ⟨O,b.s⟩
theorem Xz0(s:Lu)(j:s.length<=1000000)(i:Kx I)(g:AR I)(N:La)(b:Aa B w I N):
  Ce B I N 19 [S s] w (match Xi s with|some (k,d)=>.tuple #[Ab (k:Nat),Ba (d:Nat),.bool true]|none=>.tuple #[Ab 0,Ba 0,.bool false]):=by
 refine gE 4 (Uf s 45 j i) ?_;intro w b;refine gE 8 (Xvh _ (by have:=bD [45] s;rw[Y6];omega)) ?_;intro w b;rcases rn:Oc ((Xu [45] s).drop 1)with _|d
 ·refine gG 5 (.val (Ex.B1 (m:=7) (.of O) jY A3) O (gP 1 [] (pz _ 7 _ de (BD [45] s) ⟨O,λ_=>⟨_,O,g⟩⟩ N) ?_));rintro _ w ⟨rfl,b⟩;refine gM 7 ?_ ?_<;>intro a c
  ·refine gG 3 (⟨?_,b⟩)
   have:Xi s=none:=by
    unfold Xi;split
    ·rfl
    ·rw[rn];rfl
   rw[this]
  refine gH 5 (.nil (.ret ?_));refine λ_ f=>mC f O O O ?_
  exfalso;simp at a
 refine gG 5 (.val (Ex.B1 (m:=7) (.of O) jY A3) O (gP 1 [] (pz _ 7 _ de (BD [45] s) ⟨O,λ_=>⟨_,O,g⟩⟩ N) ?_));rintro _ w ⟨rfl,b⟩;refine gM 7 ?_ ?_<;>intro a c
 ·refine gG 3 (⟨?_,b⟩);have e:=(tD (BD [45] s)).2 (by simp at a;omega);rw[Xi,Y7 e]
 refine gG 5 (⟨?_,b⟩);obtain⟨e,h⟩:=(tD (BD [45] s)).1 (by simp at a;omega);rw[Xi,Y3 e,rn,h];rfl
theorem Og(s:Lu)(a:Int)(f:s.length<=1000000)(c:Kx I)(e:AR I)(N:La)(b:Aa B w I N):
  Ce B I N 118 [S s,Ab a] w (.bool (R8 s a)):=by
 refine gE 2 (Xz0 s f c e) ?_;intro w b;rcases ja:Xi s with _|⟨k,d⟩
 ·exact gG 14 ⟨by rw[R8,ja];rfl,b⟩
 exact gG 14 ⟨by rw[R8,ja];rfl,b⟩
theorem Xvb(h:n<=1099511627776):(Go.Lib.decDigits n).length<=13:=by
 rw[Go.Lib.decDigits_length];have key:∀(k n:Nat),n<10^k->1<=k->Go.Lib.nDigits n<=k:=by
  intro k
  induction k with
  | zero=>intro n _ h;omega
  | succ k b =>
   intro n h _
   by_cases a:n<10
   ·rw[Go.Lib.nDigits_small a];omega
   ·rw[Go.Lib.nDigits_big a];rw[LX]at h;cases k with
    | zero=>simp at h;omega
    | succ k=>have:=b (n/10) om om;omega
 exact key 13 n om de
theorem sV(n:Nat)(f:n<=1099511627776)(b:Kx I)(N:La)(a:Aa B w I N):Calls prog 22 #[Ab (n:Nat)] w (AY λv w'=>v=S (Go.Lib.decDigits n)/\Aa B w' I N) :=
 (strconv_Itoa n om om w (b.pow B w N a)).mono λe w' c=>by
  obtain⟨rfl,k,d,rfl⟩:=c;refine⟨_,O,?_,Xw0 (jI a k) d⟩;unfold Go.Lib.itoa;rw[Y3 om];(try rw[Yh])
abbrev X6(n:Nt):Lv:=[S n.ticket,S n.url,Ab n.tries,Ab n.next]
theorem xt(n:Nt)(e:n.ticket.length<=1000000)(f:n.url.length<=9223372036854775807)(c:Kx I)(d:AR I)(N:La)(a:Aa B w I N):
  Ce B I N 63 [.agg (X6 n).toArray] w (.bool (DD n)):=by
 refine gH 4 ?_;intro b1 w a;refine gE 0 (Og _ 2 e c d) ?_;intro w a;refine gH 3 (.AA (T:=λw=>Aa B w I (Ad b1 [S n.ticket,S n.url,Ab n.tries,Ab n.next] 103::N)) O O O func118 O (λb=>(X4 (.gd b O) (AM O X3))) O (λb=>Og n.ticket 3 e c d _ a) a ?_);clear a;rintro w a;refine gH 14 ?_;exact gG 14 ⟨O,a.s⟩
theorem Xv7(h:J b=some (Xd cs E)):At J (ad b 0) cs :=
 ⟨O,cs.toArray,E,(0,0),h,λj v a=>by rw[show(ad b 0).off+j=j from Yl j];simpa using a⟩
theorem XQ(J:Im)(nm b:Lu)(c:nm.length<=10000)(e:b.length<=10000)(d:Nat):CC (d+1) J [S nm,.slice none 0 0,S b,.slice none 0 0] (.mk nm [] b []) :=
 ⟨c,e,Y5 _,Y5 _,λa h=>by simp[Nd.attrs]at h,none,0,none,0,[],O,Y9 _,Y9 _,RS.nil J 2,RS.nil J 4,O,λx h=>by simp at h,λi x k h _=>by simp at h⟩
theorem YH{b c:Nat}{t:Lu}(l:t.length<=9000)(h:nn<=1099511627776)(f:J b=some (Xd [S ng,S (nh++t),S np,S nk,S Qe,S (Go.Lib.decDigits nn)] 99))(g:J c=some (Xd [S ni,.slice none 0 0,S I_,.slice none 0 0,S nj,.slice none 0 0,S t,.slice none 0 0] 371)):
  CC 8 J [S Ut,.slice (some (ad b 0)) 3 3,S [],.slice (some (ad c 0)) 2 2] (iy t nn):=by
 have j:=Xvb h;refine⟨(show Ut.length<=10000 by decide),Y5 _,(show 3<=10000 by decide),(show 2<=10000 by decide),λa e=>?_,some (ad b 0),3,some (ad c 0),2,[[S ni,.slice none 0 0,S I_,.slice none 0 0],[S nj,.slice none 0 0,S t,.slice none 0 0]],O,Y9 _,Y9 _,⟨O,λ_=>⟨_,O,Xv7 f⟩⟩,⟨O,λ_=>⟨_,O,Xv7 g⟩⟩,O,λx hx=>?_,λi x k hx d=>?_⟩
 ·simp only[iy,Nd.attrs,Ys,List.mem_nil_iff,or_false]at e
  rcases e with rfl|rfl|rfl
  ·refine⟨by(try dsimp only);decide,?_⟩;show(nh++t).length<=10000
   rw[Y0];show 3+t.length<=10000;omega
  ·exact⟨de,de⟩
  ·exact⟨by(try dsimp only);decide,od⟩
 ·simp only[Ys,List.mem_nil_iff,or_false]at hx
  rcases hx with rfl|rfl<;>rfl
 ·match i,hx,d with
  | 0,hx,d=>cases hx;cases d;exact XQ J ni I_ de de 6
  | 1,hx,d=>cases hx;cases d;exact XQ J nj t de om 6
  | i+2,hx,_=>simp at hx
theorem yP{t:Lu}(c:t.length<=9000)(a:nn<=1099511627776):(TC t nn).length<=100000:=by
 have b:=Xvb a;unfold TC M1 M2 M3 M4;simp only[Y0,Y4,Yi]
 omega
theorem vY(t:Lu)(nn:Nat)(e:jR t=true)(f:nn<=1099511627776)(cs:Lv)(b:Kx I)(c:CC 8 I cs (iy t nn))(N:La)(d:Aa B w I N):Calls prog 256 #[.agg cs.toArray] w (AY λv w'=>v=.tuple #[S (TC t nn),Ab 0]/\Aa B w' I N):=by
 obtain⟨a,g⟩:=gL e
 have:=Xjy (iy t nn) cs b c (by rw[Xy0 a];have:=yP (t:=t) om f;omega) N d
 rw[ej a,Xy0 a]at this;exact this
theorem Xrm(t u:Lu)(q:Int)(nn:Nat)(j:jR t=true)(i:nn<=1099511627776)(m:Kx I)(N:La)(a:Aa B w I N):
  Ce B I N 159 [.agg ([S t,S u,Ab q,Ab (nn:Nat)]:Lv).toArray] w (S (TC t nn)):=by
 have p:=(gL j).2;refine gG 2 ?_;intro b1 w a;refine gD [0] [] [0,1,2,3,4,5,6,10,11,12,13] ?_;intro w a;refine gH 11 (gB 7 14 [8] [7,8,9,15,16,17,18,19,20,21] ?_ ?_)
 ·refine gE 0 (sV nn i m) ?_;intro w a;refine gH 1 (gB 9 14 [14,15,16,17,18,19,20,21] [9,15,16,17,18,19,20,21] ?_ ?_)
  ·refine gH 1 ?_;intro k w a;refine gH 1 ?_;intro l w a;refine gH 1 ?_;replace a:=(a.pick 1 O)
   obtain⟨n,f,d,a⟩:=a.fZ 0;obtain⟨o,b,e,a⟩:=a.fZ 0;try dsimp only[List.eraseIdx]at a
   have c:=f.trans b;have g:=YH (oh ((gL j).2)) i (b.h _ _ d) e;refine gE 0 (vY t nn j i _ (m.mono c) g) ?_;intro w a;exact gG 7 ⟨O,qC c a.s⟩
  ·refine gH 1 ?_;intro l w a;refine gH 1 ?_;intro k w a;refine gH 1 ?_;replace a:=((a.pick 1 O).pick 1 O)
   obtain⟨n,f,d,a⟩:=a.fZ 0;try dsimp only[List.eraseIdx]at a
   obtain⟨o,b,e,a⟩:=a.fZ 0;try dsimp only[List.eraseIdx]at a
   have c:=f.trans b;have g:=YH (oh ((gL j).2)) i (b.h _ _ d) e;refine gE 0 (vY t nn j i _ (m.mono c) g) ?_;intro w a;exact gG 7 ⟨O,qC c a.s⟩
 ·refine gH 1 ?_;intro l w a;refine gE 0 (sV nn i m) ?_;intro w a;refine gH 2 ?_;intro k w a;refine gH 1 ?_;replace a:=((a.pick 1 O).pick 1 O)
  obtain⟨n,f,d,a⟩:=a.fZ 0;try dsimp only[List.eraseIdx]at a
  obtain⟨o,b,e,a⟩:=a.fZ 0;try dsimp only[List.eraseIdx]at a
  have c:=f.trans b;have g:=YH (oh ((gL j).2)) i (b.h _ _ d) e;refine gE 0 (vY t nn j i _ (m.mono c) g) ?_;intro w a;exact gG 7 ⟨O,qC c a.s⟩
theorem wg{n:Nt}(h:DD n=true):jR n.ticket=true/\0<=n.next/\n.next<=1099511627776/\n.url.length<=100/\0<=n.tries/\n.tries<=9:=by
 unfold DD at h;simp only[Yb,decide_eq_true_eq]at h
 obtain⟨⟨⟨⟨⟨a,f⟩,b⟩,c⟩,d⟩,e⟩:=h;exact⟨a,d,e,om,b,c⟩
end Go.Proofs.W9
namespace Rk
open Ez
def eD(b:Nat):Nat:=if 9223372036854775808<=b then 18446744073709551615-b else b+9223372036854775808
theorem VM(h:b<18446744073709551616):b&&& 9223372036854775808=if 9223372036854775808<=b then 9223372036854775808 else 0:=by
 apply Nat.eq_of_testBit_eq
 intro i;have c:b.testBit 63=decide (9223372036854775808<=b):=by
  rw[Nat.testBit_eq_decide_div_mod_eq,show(2:Nat)^63=9223372036854775808 by decide];exact decide_eq_decide.2 om
 rw[Nat.testBit_and,show 9223372036854775808=2^63 by decide,zr];rw[show 9223372036854775808=2^63 by decide]at c
 by_cases hi:63=i
 ·subst hi;rw[c]
  by_cases a:2^63<=b
  ·rw[Y7 a,zr];simp[a]
  ·rw[Y3 a];simp[a]
 ·by_cases a:2^63<=b
  ·rw[Y7 a,zr];simp[hi]
  ·rw[Y3 a];simp[hi]
theorem rQ(h:b<9223372036854775808):b||| 9223372036854775808=b+9223372036854775808:=by
 have e:=uY (i:=63) (by rw[show(2:Nat)^63=9223372036854775808 by decide];exact h) 1;rw[show(2:Nat)^63*1=9223372036854775808 by decide,Nat.or_comm]at e;rw[<-e];omega
def W(x y:Nat):Nat->Option Nat
 | 0=>nf x
 | k+1=>(W x y k).bind λv=>Ieee.double.mul v y
theorem jE{x y r a:Nat}(h:nf r=W x y k)(b:nf a=Ieee.double.mul r y):nf a=W x y (k+1):=by
 rw[W,<-h,b];unfold nf;cases c:nan r
 ·rfl
 ·simp[YI (.inl c)]
def kG(n:Int):Nat:=(max 0 (min n 64)).toNat
def KO(x y:Nat)(k:Nat)(z:Nat):Nat:=if lt 0 z then match W x y k with|none=>z|some v=>if lt z v then z else if lt 0 v then v else 0 else 0
def C_(x y:Nat)(n:Int)(z:Nat):Nat:=KO x y (kG n) z
theorem aR{x y z:Nat}(h:lt 0 z=false):KO x y k z=0:=by unfold KO;rw[h];rfl
theorem yx{x y z r:Nat}(h:lt 0 z=true)(a:nf r=W x y k):KO x y k z=if nan r||lt z r then z else if lt 0 r then r else 0:=by
 unfold KO;rw[h,Y7 O,<-a];unfold nf;cases nan r<;>simp
theorem YK:nan 0=false:=de
theorem fU:sv 0=0:=de
theorem lt0(v:Nat):lt 0 v=(!nan v&&decide (0<sv v)):=by unfold lt;rw[YK,fU];simp
theorem WJ(v:Nat):(!vv v v)=nan v:=by unfold vv;cases nan v<;>simp
def top(a:Int):Int:=max 0 (min a 1099511627776)
def iX(x:Nat):Int:=((Ieee.double.read (iq x)).toInt .zero).getD 0
def I4(x:Nat)(a:Int):Int:=if nan x||lt (T_ (top a)) x then top a else if lt 0 x then iX x else 0
theorem qF(a:Int):0<=top a/\top a<=1099511627776:=by unfold top;omega
theorem aG{x:Nat}{a:Int}(h:nan x=false):lt (T_ (top a)) x=decide (top a*(one:Int)<sv x):=by
 obtain⟨b,c⟩:=YQ (qF a).1 (qF a).2;unfold lt;rw[b,h,c];simp
theorem Xv6{x:Nat}{most:Int}(h:(nan x||lt (T_ (top most)) x)=false)(a:lt 0 x=true):
  (Ieee.double.read (iq x)).toInt .zero=some (iX x)/\0<=iX x/\iX x<=top most/\sv x<=iX x*one/\(iX x-1)*one<sv x:=by
 simp only[G3]at h
 obtain⟨b,f⟩:=h;rw[aG b]at f;simp only[decide_eq_false_iff_not]at f
 rw[lt0,b]at a;simp at a
 have k:(0:Int)<(one:Int):=kY.2 one_pos;have l:=(qF most).2;have g:top most*(one:Int)<=1099511627776*(one:Int):=Y5f l om;obtain⟨c,d,m,i,j⟩:=Rn b a om;have e:iX x=c:=by unfold iX;rw[d];rfl
 rw[e];refine⟨d,om,?_,i,j⟩
 have:((c:Int)-1)*one<top most*one:=om
 have:=zj this (vn k)
 omega
theorem Wg(x:Nat)(a:Int):0<=I4 x a/\I4 x a<=top a/\(nan x=false->I4 x a<top a->sv x<=I4 x a*one)/\(0<I4 x a->nan x=false->(I4 x a-1)*one<sv x):=by
 have e:=qF a;unfold I4;cases c:(nan x||lt (T_ (top a)) x)
 ·simp only[T6,if_false]
  cases d:lt 0 x
  ·simp only[T6,if_false]
   refine⟨om,e.1,λb _=>?_,om⟩;rw[lt0,b]at d;simp at d
   omega
  ·simp only[if_true]
   obtain⟨_,g1,g2,f,g⟩:=Xv6 c d;exact⟨g1,g2,λ_ _=>f,λ_ _=>g⟩
 ·simp only[if_true]
  refine⟨e.1,vr _,λ_ h=>by omega,λh b=>?_⟩;rw[b,aG b]at c;simp at c
  have:(top a-1)*(one:Int)<=top a*one:=Y5f om om
  omega
end Rk
namespace Go.Proofs.W9
open Gk Rk Ez
open Tryz
theorem Xni(a:Nat)(w:Wo):
  Cz 344 [AQ a] w λv w'=>v=.bool (Ez.nan a)/\w=w':=by
 refine gH 3 (.val (.zV (.of O) (.of O)) O ?_);exact gG 1 ⟨by rw[WJ],O⟩
theorem NO(b:Nat)(c:b<18446744073709551616)(w:Wo):
  Cz 193 [AQ b] w λv w'=>v=Ba (eD b:Nat)/\w=w':=by
 refine gH 2 (.val (.extern func285 kr kr kr (e:=Extern.MathFloatBits.float64bits) kr (AM O X3) O) O (gH 2 (.val (.qX c (.of O) (.of O)) O ?_)));refine gN 1 ?_ ?_<;>intro a
 ·refine gH 1 (.val (.rL om (.of O)) O (gG 1 ?_));have e:9223372036854775808<=b:=by
   rw[VM c]at a;split at a
   ·assumption
   ·simp at a
  exact⟨by rw[eD,Y7 e],O⟩
 refine gH 1 (.val (.Aab c (.of O) (.of O)) O (gG 1 ?_));have e:¬ 9223372036854775808<=b:=by
  rw[VM c]at a;split at a
  ·simp at a
  ·assumption
 exact⟨by rw[eD,Y3 e,rQ om],O⟩
theorem Xd3(a:Int)(w:Wo):
  Cz 284 [Ba a] w λv w'=>v=.bool false/\w=w':=by
 exact gG 5 ⟨by simp,O⟩
theorem Xrh(a b:Int)(w:Wo):
  Cz 192 [Ba a,Ba b] w λv w'=>v=Ab (if a<b then -1 else if b<a then 1 else 0)/\w=w':=by
 refine gC 2 (Xd3 _ _) ?_;rintro _ _ ⟨rfl,rfl⟩;refine gC 2 (Xd3 _ _) ?_;rintro _ _ ⟨rfl,rfl⟩;refine gG 2 (.Bt (rfl) (gG 1 (.Bt (rfl) ?_)));refine gN 3 ?_ ?_<;>intro c
 ·exact gG 1 ⟨by rw[Y7 c],O⟩
 refine gN 3 ?_ ?_<;>intro d
 ·exact gG 1 ⟨by rw[Y3 om,Y7 d],O⟩
 exact gG 1 ⟨by rw[Y3 om,Y3 om],O⟩
theorem U7(x y:Nat)(n:Int)(z:Nat)(N:La)(c:Aa B w I N):
  Ce B I N 258 [AQ x,AQ y,Ab n,AQ z] w (AQ (C_ x y n z)):=by
 refine gH 2 (.val (.WN (.of O) (.of O)) O ?_);refine gM 1 ?_ ?_<;>intro a m
 ·exact gG 1 ⟨by rw[C_,aR (su a)],c⟩
 refine gG 4 (.lk [1,3,14] (σ:=Nat×Nat) (λ(r,j) _m=>(0,AQ r)::(15,Ab (j:Nat))::_m) (λ(r,j) w=>nf r=W x y j/\(j:Int)<=max 0 (min n 64)/\Aa B w I N) (λ(r,j)=>(max 0 (min n 64)).toNat-j) (x,0) ⟨O,om,c⟩ ?_);rintro⟨r,j⟩ w ⟨i,t,c⟩;refine gM 1 ?_ ?_<;>intro l o
 ·refine gH 2 (.zU c (.of O) (.of O) O ?_);intro k w s f c;refine gG 3 (Br (_,j+1) O ⟨jE i f,om,c⟩)
 refine gC 1 (Xni _ _) ?_;rintro _ _ ⟨rfl,rfl⟩;refine gH 3 (.Am O O (λe=>(.WN (.gd e O) (.gd e O))) O ?_);refine gM 2 ?_ ?_<;>intro b p
 ·refine gG 2 ?_;have g:j=kG n:=by unfold kG;omega
  subst g;have h:lt 0 z=true:=su a
  exact⟨by rw[C_,yx h i,Y7 b],c⟩
 refine gH 1 (.val (.WN (.of O) (.of O)) O ?_);refine gM 1 ?_ ?_<;>intro d q
 ·refine gG 2 ?_;have g:j=kG n:=by unfold kG;omega
  subst g;have h:lt 0 z=true:=su a
  exact⟨by rw[C_,yx h i,Y3 (by rw[b];simp),Y7 d],c⟩
 refine gG 1 ?_;have g:j=kG n:=by unfold kG;omega
 subst g;have h:lt 0 z=true:=su a
 exact⟨by rw[C_,yx h i,Y3 (by rw[b];simp),Y3 (by rw[d];simp)],c⟩
theorem V_(w : World){x : Nat}(b : Ez.nan x = false): (Extern.MathFloor.toIntegral "math.archCeil" .up #[AQ x]).run P w = .ok (AQ (iq x)) w := by
 have a:(∃s m i,FloatKind.f64.decode x=.number s m i)\/∃s,FloatKind.f64.decode x=.infinity s:=by
  have c:¬ 9218868437227405312<rg x:=by simpa[Ez.nan]using b
  rcases Yz (rg x) 9218868437227405312 with h|h
  ·obtain⟨m,i,e,_⟩:=nO h;exact .inl ⟨_,m,i,e⟩
  ·exact .inr ⟨_,tL om⟩
 have e:iq x=FloatKind.f64.encode ((FloatKind.f64.decode x).integral .up):=rfl;rw[e];rcases a with⟨s,m,i,a⟩|⟨s,a⟩
 ·delta Extern.MathFloor.toIntegral
  conv=>lhs;arg 2;whnf
  rw[a];rfl
 ·delta Extern.MathFloor.toIntegral
  conv=>lhs;arg 2;whnf
  rw[a];rfl
theorem Uc(x:Nat)(a:Ez.nan x=false)(w:Wo):
  Cz 345 [AQ x] w λv w'=>v=AQ (iq x)/\w=w':=by
 refine gG 1 (.CU (rfl) (gH 1 (.val (.extern func401 kr kr kr (e := Extern.MathFloor.toIntegral "math.archCeil" .up) kr (AM O X3) (V_ w a)) O ?_)));exact gG 1 ⟨O,O⟩
theorem Qa(x:Nat)(most:Int)(w:Wo):
  Cz 259 [AQ x,Ab most] w λv w'=>v=Ab (I4 x most)/\w=w':=by
 refine gC 6 (Xni _ _) ?_;rintro _ _ ⟨rfl,rfl⟩;refine gH 3 (.Am O O (λc=>(.toF (.gd c O) O UL)) O (.Am O O (λc=>(.WN (.gd c O) (.gd c O))) O ?_));refine gM 2 ?_ ?_<;>intro b g
 ·exact gG 2 ⟨by rw[I4,Y7 (show(Ez.nan x||lt (T_ (top most)) x)=true from b)];rfl,O⟩
 refine gH 1 (.val (.WN (.of O) (.of O)) O ?_);refine gM 1 ?_ ?_<;>intro a f
 ·have e:Ez.nan x=false:=by cases h:Ez.nan x<;>simp[h]at b ⊢
  have d:=Xv6 (x:=x) (most:=most) b a;have i:=qF most;refine gC 1 (Uc x e _) ?_;rintro _ _ ⟨rfl,rfl⟩;refine .val (.ofF (.of O) O B5 d.1 d.2.1 om) O ?_;exact gG 1 ⟨by rw[I4,Y3 (show ¬ _ by rw[show(Ez.nan x||lt (T_ (top most)) x)=false from b];simp),Y7 a],O⟩
 exact gG 1 ⟨by rw[I4,Y3 (show ¬ _ by rw[show(Ez.nan x||lt (T_ (top most)) x)=false from b];simp),Y3 (by rw[a];simp)],O⟩
end Go.Proofs.W9
namespace Xm
open Ul Pc Gk DS Tk Tr
def vA:Nt:=⟨[],[],0,0⟩
def L9:List Nt->List Nt->Bool
 | _,[]=>false
 | q,n::r=>(q.any λx=>x.ticket==n.ticket)||L9 (q++[n]) r
def Fc(q l:List Nt):List Nt×Nat:=if(l.any λn=>!DD n)=true then(q,1)else if L9 q l=true then(q,7)else if 64<q.length+l.length then(q,5)else(q++l,0)
def Oh:Option Nt->List Nt->Option Nt
 | b,[]=>b
 | none,n::r=>Oh (some n) r
 | some b,n::r=>Oh (some (if n.next<b.next then n else b)) r
def EE(q:List Nt)(now:Int):Nt×Bool:=match Oh none q with
 | none=>(vA,false)
 | some b=>if now<b.next then(vA,false)else(b,true)
structure Qc where
 x:Nat
 y:Nat
 z:Nat
 tries:Int
def Mw(c:Qc):Int:=max 1 (min c.tries 9)
def Vh(c:Qc)(n:Nt)(now:Int):Nt:=⟨n.ticket,n.url,n.tries+1,min (now+Rk.I4 (Rk.C_ c.x c.y n.tries c.z) 1099511627776) 1099511627776⟩
def Kf(q:List Nt)(t:Lu):Int:=EP (λn=>n.ticket==t) q 0
def G0(c:Qc)(q:List Nt)(t:List UInt8)(ok:Bool)(now:Int):List Nt×Nat:=match q[(Kf q t).toNat]? with
 | none=>(q,6)
 | some n=>if Kf q t<0 then(q,6)else if ok=true\/Mw c<=n.tries+1 then(q.eraseIdx (Kf q t).toNat,0)else(q.set (Kf q t).toNat (Vh c n now),0)
def FK(q:List Nt):Prop:=q.length<=64/\∀n∈q,DD n=true
theorem w7:∀{q:List Nt} {b:Option Nt} {n:Nt},Oh b q=some n->b=some n\/n∈q
 | [],b,n,h=>.inl h
 | m::r,none,n,h=>by
  rcases w7 (q:=r) h with e|e
  ·cases e;exact .inr sz
  ·exact .inr (by simp[e])
 | m::r,some b,n,h=>by
  rcases w7 (q:=r) h with e|e
  ·split at e
   ·cases e;exact .inr sz
   ·exact .inl e
  ·exact .inr (by simp[e])
theorem w6:∀(a b:List Nt) (s:Option Nt),Oh s (a++b)=Oh (Oh s a) b
 | [],b,s=>rfl
 | m::r,b,none=>w6 r b _
 | m::r,b,some _=>w6 r b _
theorem OR(x:Nat):0<=Rk.I4 x 1099511627776/\Rk.I4 x 1099511627776<=1099511627776:=by
 have h:=Rk.Wg x 1099511627776;have a:Rk.top 1099511627776=1099511627776:=de
 rw[a]at h;exact⟨h.1,h.2.1⟩
theorem qe{q l:List Nt}(h:FK q):FK (Fc q l).1:=by
 unfold Fc;split
 ·exact h
 ·rename_i a
  split
  ·exact h
  ·split
   ·exact h
   ·rename_i d
    refine⟨by rw[Y0];omega,λn c=>?_⟩;rcases Yt.1 c with e|e
    ·exact h.2 n e
    ·have b:=zx.1 (qO _▸a) n e;simpa using b
theorem Xvf{c:Qc}{q:List Nt}{t:Lu}{ok:Bool}{now:Int}(h:FK q)(p:0<=now):FK (G0 c q t ok now).1:=by
 unfold G0;split
 ·exact h
 ·rename_i n i
  split
  ·exact h
  ·split
   ·exact⟨Yr (List.length_eraseIdx_le _ _) h.1,λm a=>h.2 m (zm a)⟩
   ·rename_i d
    refine⟨by rw[kW];exact h.1,λm a=>?_⟩;rcases oO a with e|e
    ·exact h.2 m e
    ·subst e;have b:=h.2 n (Y8 i);have f:=OR (Rk.C_ c.x c.y n.tries c.z);have g:n.tries+1<Mw c:=by
      rcases Int.lt_or_le (n.tries+1) (Mw c)with e|e
      ·exact e
      ·exact Aw (.inr e) d
     unfold Mw at g;unfold DD at b ⊢;simp only[Yb,decide_eq_true_eq]at b ⊢
     obtain⟨⟨⟨⟨⟨g1,g2⟩,j⟩,k⟩,l⟩,o⟩:=b;exact⟨⟨⟨⟨⟨g1,g2⟩,by(try dsimp only[Vh]);omega⟩,by(try dsimp only[Vh]);omega⟩,by(try dsimp only[Vh]);omega⟩,by(try dsimp only[Vh]);omega⟩
end Xm
namespace Go.Proofs.W9
open Gk Ul Pc DS Xm Tr Tk
open Tryz
theorem vO(a:Oa)(cap:Nat)(l:List (Nt))(C:l.length<=9223372036854775807)(q:Nt->Bool)(f:FuncId)(fn:Func)(o:prog.funcs[f]?=some fn)(m:Xc fn=true)(b:Lv)(N:La)(x:∀w,Aa B w I N->H9 w X6 4 a l)(A:∀(r:Nt) (n:r∈l) w,Aa B w I N->Calls prog f ([Value.agg (X6 r).toArray]++b).toArray w (AY λv w'=>v=.bool (q r)/\Aa B w' I N))(c:Aa B w I N):
  Ce B I N 119 [.slice a l.length cap,.func (.func f) #[] b.toArray] w (Ab (EP q l 0)):=by
 refine gG 4 (.lk [0,1,7] (σ:=Nat) (λi _m=>(8,Ab (i:Nat))::_m) (λi w=>i<=l.length/\(∀(j:Nat) t,j<i->l[j]?=some t->q t=false)/\Aa B w I N) (λi=>l.length-i) 0 ⟨Y5 _,λ_ _ h=>Aw h om,c⟩ ?_);rintro i w ⟨hi,g,c⟩;refine gM 1 ?_ ?_<;>intro y z
 ·obtain⟨r,n⟩:∃r,l[i]?=some r:=⟨_,Y2 om⟩
  obtain⟨p,rfl,hx⟩:=x w c i r n;refine gH 6 (.val (.Hc (.of O) hx oq QT O) O (.Bu (cap:=b) o m (.of O) (AM O X3) O (A r (Y8 n) w c) ?_));rintro _ w ⟨rfl,c⟩;refine gM 0 ?_ ?_<;>intro d u
  ·exact gG 2 ⟨by rw[jG g n d],c⟩
  refine gG 2 (rd (i+1) ⟨om,λj t D k=>?_,c⟩);rcases Yz j i with s|s
  ·exact g j t s k
  ·have e:j=i:=om
   subst e;rw[n]at k;cases k;exact d
 exact gG 1 ⟨by rw[jF (λj t k=>g j t (oh ((Y1.1 k).1)) k)],c⟩
theorem X9u(a:Oa)(cap:Nat)(l:List (Nt))(g:l.length<=9223372036854775807)(e:Nt->Bool)(b:FuncId)(fn:Func)(f:prog.funcs[b]?=some fn)(d:Xc fn=true)(c:Lv)(N:La)(i:∀w,Aa B w I N->H9 w X6 4 a l)(j:∀(r:Nt) (k:r∈l) w,Aa B w I N->Calls prog b ([Value.agg (X6 r).toArray]++c).toArray w (AY λv w'=>v=.bool (e r)/\Aa B w' I N))(h:Aa B w I N):
  Ce B I N 64 [.slice a l.length cap,.func (.func b) #[] c.toArray] w (.bool (l.any e)):=by
 refine gP 3 [] (vO a cap l g e b fn f d _ N i j) ?_;rintro _ w ⟨rfl,h⟩;exact gG 2 ⟨by rw[<-cK e l 0],h⟩
theorem mj{l:List Nt}(m:Aa B w I N)(f:N[k]?=some (Ao 103 4 (.slice a l.length c) l.length (X2 X6 (l)))):H9 w X6 4 a l:=λi r g=>by
 obtain⟨b,cap,rest,p,_,_,_,_,e⟩:=m.AF f (oh ((Y1.1 g).1));injection p with h q d
 subst h;have n:=e.block (k:=k) (by rw[qL ((Y1.1 f).1)];rfl);refine⟨_,O,λj v o=>?_⟩;rw[Addr.add_add];have d:=nC (cells:=X6) (s:=4) (λ_=>rfl) g o
 have:=Xx n (by rw[Yf (Y1.1 d).1];exact d)
 rw[C7,Yl];exact this
theorem gK{α:Type}{cells:α->Lv}(h:∀r,(cells r).all Value.oneCell'=true):∀l:List α,(X2 cells l).all Value.oneCell'=true
 | []=>rfl
 | x::l=>by
  show(cells x++X2 cells l).all _=true
  rw[iR,h x,gK h l];rfl
theorem Rc(r:Nt)(t:Lu)(a:Nat)(N:La)(b:Aa B w I (Ad a [S t] 9::N)):
  Ce B I (Ad a [S t] 9::N) 120 [.agg (X6 r).toArray,ptr a 0] w (.bool (r.ticket==t)):=by
 refine gG 7 ?_;intro c w b;exact⟨O,b.s⟩
theorem Xuy(a:Oa)(c:Nat)(l:List Nt)(f:l.length<=100000)(t:Lu)(N:La)(e:∀(w:Wo) (X:X1),Aa B w I (X::N)->H9 w X6 4 a l)(b:Aa B w I N):
  Ce B I N 67 [.slice a l.length c,S t] w (Ab (Kf l t)):=by
 refine gH 4 ?_;intro d w b;refine gP 0 [] (vO a c l om (λr=>r.ticket==t) 120 _ func120 O _ _ (λw h=>e w _ h) (λr g w h=>Rc r t d _ h)) ?_;rintro _ w ⟨rfl,b⟩;exact gG 1 ⟨O,b.s⟩
theorem sJ(a:Oa)(c:Nat)(l:List Nt)(m:l.length<=100000)(e:RS I a 4 l.length (X2 X6 l))(N:La)(b:Aa B w I N):
  Cz 66 [.slice a l.length c] w λv w'=>Aa B w' I (Ao 103 4 v (l).length (X2 X6 (l))::N):=by
 refine gH 2 (.val (Ex.Fp (.of O) (.of O) TP) O ?_);refine gM 0 ?_ ?_<;>intro d g
 ·refine gG 1 ?_;cases a with
  | some p=>simp at d
  | none =>
  have f:l=[]:=by
   cases l with
   | nil=>rfl
   | cons x l=>obtain⟨p,h,_⟩:=e.2 sz;cases h
  subst f;exact b.Al 103 4
 refine gH 2 ?_;intro j w b;replace b:=b.BB (k:=0) (size:=4) O O (Y5 _);refine .Bk (bytes:=48) b (.of O) (.of O) e (k:=0) O TP (i:=t103) kr O O O O (gK (λr=>rfl) l) ⟨om,by unfold maxLen;omega⟩ O ?_;intro n w b;rw[Yl,CS]at b;exact gG 1 (b)
theorem Xn6(h:Nat)(lim:Int)(x y z:Nat)(a:Oa)(c:Nat)(q:List Nt)(l:q.length<=64)(j:RS I a 4 q.length (X2 X6 q))(k:q.length<=c)(N:La)(b:Aa B w I (Ad h [Ab lim,AQ x,AQ y,AQ z,.slice a q.length c] 149::N)):
  Cz 153 [ptr h 0] w λv w'=>∃J d e,v=.slice d q.length e/\Le I J/\q.length<=e/\RS J d 4 q.length (X2 X6 q)/\Aa B w' J (Ad h [Ab lim,AQ x,AQ y,AQ z,.slice a q.length c] 149::N):=by
 refine gF 5 (sJ a c q om j) ?_;rintro m w b;refine gG 1 ?_;obtain⟨d,e,rfl,g,_⟩:=b.vS 0;obtain⟨J,i,f,b⟩:=b.fV 0;exact⟨J,d,e,O,i,g,f,b⟩
theorem Qj(cs:Lv)(x y z:Nat)(h:Int)(c:cs[24]?=some (AQ x))(d:cs[25]?=some (AQ y))(e:cs[26]?=some (AQ z))(f:cs[27]?=some (Ab h))(N:La)(a:Aa B w I N):
  Cz 30 [.agg cs.toArray] w λv w'=>∃g,v=ptr g 0/\Aa B w' I (Ad g [Ab (max 1 (min h 9)),AQ x,AQ y,AQ z,.slice none 0 0] 149::N):=by
 refine gG 0 (.G7 a (.of O) O ?_);intro b1 w a;refine gH 2 (.val (.lo O a (k:=0) O BP f) O (gH 3 (.val (.lo O a (k:=0) O Qq c) O (gH 1 (.val (.lo O a (k:=0) O Qq d) O (gH 1 (.val (.lo O a (k:=0) O Qq e) O (gG 3 ?_))))))));intro b w a;exact⟨b,O,a.s⟩
theorem Xnc(o:Nat)(lim:Int)(x y z:Nat)(a:Oa)(c:Nat)(q:List Nt)(M:q.length<=64)(F:RS I a 4 q.length (X2 X6 q))(L:q.length<=c)(v:∀n∈q,DD n=true)(now:Int)(G:0<=now)(H:now<=1099511627776)(N:La)(f:Aa B w I (Ad o [Ab lim,AQ x,AQ y,AQ z,.slice a q.length c] 149::N)):
  Ce B I (Ad o [Ab lim,AQ x,AQ y,AQ z,.slice a q.length c] 149::N) 157 [ptr o 0,Ab now] w (.tuple #[.agg (X6 (EE q now).1).toArray,.bool (EE q now).2]):=by
 refine gH 11 ?_;intro D E w f;refine gG 0 ?_;have l:=f;clear f;refine .lk [1,4,6,13,14] (σ:=Nat×Nt) (λ(i,b) _m=>(15,Ab (i:Nat))::_m) (λ(i,b) w=>i<=q.length/\(Oh none (q.take i)=none/\i=0/\b=⟨[],[],0,1099511627777⟩\/Oh none (q.take i)=some b)/\Aa B w I (Ad E [S b.ticket,S b.url,Ab b.tries,Ab b.next] 103::Ad D [S [],S [],Ab 0,Ab 0] 103::Ad o [Ab lim,AQ x,AQ y,AQ z,.slice a q.length c] 149::N)) (λ(i,b)=>q.length-i) (0,⟨[],[],0,1099511627777⟩) ⟨Y5 _,.inl ⟨O,O,O⟩,l⟩ ?_;rintro⟨i,b⟩ w ⟨hi,e,f⟩;clear l;refine gN 1 ?_ ?_<;>intro C
 ·refine gG 0 ?_;obtain⟨n,t⟩:∃n,q[i]?=some n:=⟨_,Y2 om⟩
  obtain⟨p,u,hx⟩:=Bv (cells:=X6) (λ_=>rfl) F t;subst u;have J:=wg (v n (Y8 t));have k:Oh none (q.take (i+1))=Oh (Oh none (q.take i)) [n]:=by rw[Yv,t,DO,w6]
  refine gG 9 ?_;intro K w f;refine gN 0 ?_ ?_<;>intro g
  ·refine gH 4 ?_;intro w f;refine gG 0 (rd (i+1,n) ⟨om,.inr ?_,(f.z [3,3,3] 3 1)⟩);rcases e with⟨d,A,m⟩|d
   ·rw[k,d];rfl
   ·rw[k,d];show Oh (some (if n.next<b.next then n else b)) []=_
    rw[Y7 (oh g)];rfl
  refine gG 2 (rd (i+1,b) ⟨om,.inr ?_,(f.z [3,3,3] 3 1)⟩);rcases e with⟨d,A,m⟩|d
  ·subst m;exfalso;have r:=g;(try dsimp only at r);omega
  ·rw[k,d];show Oh (some (if n.next<b.next then n else b)) []=_
   rw[Y3 (oh g)];rfl
 refine gN 5 ?_ ?_<;>intro h
 ·refine gH 3 ?_;intro w f;refine gG 0 (⟨?_,f.s⟩);have j:i=q.length:=om
  subst j;rw[GK]at e;unfold EE;rcases e with⟨d,_⟩|d
  ·rw[d];first|done|rfl
  ·rw[d];dsimp only
   rw[Y7 (oh h)];first|done|rfl
 refine gH 3 ?_;intro w f;refine gG 0 (⟨?_,f.s⟩);have j:i=q.length:=om
 subst j;rw[GK]at e;unfold EE;rcases e with⟨d,A,m⟩|d
 ·subst m;exfalso;have r:=h;(try dsimp only at r);omega
 ·rw[d];dsimp only
  rw[Y3 (oh h)];first|done|rfl
theorem UC(r:Nt)(d:r.ticket.length<=60)(e:r.url.length<=120)(b:Kx I)(c:AR I)(N:La)(a:Aa B w I N):
  Ce B I N 65 [.agg (X6 r).toArray] w (.bool (!DD r)):=by
 refine gH 3 ?_;intro b1 w a;refine gE 0 (xt r om om b c) ?_;intro w a;exact gG 2 ⟨O,a.s⟩
theorem wY(L:Nat)(lim:Int)(x y z:Nat)(a:Oa)(c:Nat)(q:List Nt)(hq:q.length<=64)(H:RS I a 4 q.length (X2 X6 q))(Q:q.length<=c)(W:Oa)(lc:Nat)(l:List Nt)(hl:l.length<=70)(E:∀n∈l,n.ticket.length<=60/\n.url.length<=120)(u:RS I W 4 l.length (X2 X6 l))(hK:Kx I)(hP:AR I)(N:La)(b:Aa B w I (Ad L [Ab lim,AQ x,AQ y,AQ z,.slice a q.length c] 149::N)):
  Cz 34 [ptr L 0,.slice W l.length lc] w λv w'=>∃J a2 c2,v=Ab ((Fc q l).2:Nat)/\Le I J/\RS J a2 4 (Fc q l).1.length (X2 X6 (Fc q l).1)/\(Fc q l).1.length<=c2/\Aa B w' J (Ad L [Ab lim,AQ x,AQ y,AQ z,.slice a2 (Fc q l).1.length c2] 149::N):=by
 refine gP 2 [] (X9u W lc l om (λn=>!DD n) 65 _ func65 O [] _ (λw h=>Ob (cells:=X6) (λ_=>rfl) h u) (λr hr w h=>UC r (E r hr).1 (E r hr).2 hK hP _ h)) ?_;rintro _ w ⟨rfl,b⟩;refine gM 0 ?_ ?_<;>intro o an
 ·refine gG 1 ?_;have t:Fc q l=(q,1):=by unfold Fc;rw[Y7 o]
  rw[t];exact⟨I,a,c,O,Le.refl _,H,Q,b⟩
 refine gF 4 (sJ a c q om H) ?_;rintro v5 w b;have A:=b;clear b;refine gG 4 (.lk [0,1,15,16] (σ:=Nat×List Nt×Va) (λ(i,all,v) _m=>(5,v)::(17,Ab (i:Nat))::_m) (λ(i,all,v) w=>i<=l.length/\all=q++l.take i/\L9 q l=L9 all (l.drop i)/\Aa B w I (Ao 103 4 v (all).length (X2 X6 (all))::Ad L [Ab lim,AQ x,AQ y,AQ z,.slice a q.length c] 149::N)) (λ(i,all,v)=>l.length-i) (0,q,v5) ⟨Y5 _,by simp,O,A⟩ ?_);rintro⟨i,all,v⟩ w ⟨hi,e,f,b⟩;clear A;refine gN 1 ?_ ?_<;>intro ac
 ·obtain⟨n,T⟩:∃n,l[i]?=some n:=⟨_,Y2 om⟩
  obtain⟨p,V,hx⟩:=Bv (cells:=X6) (λ_=>rfl) u T;subst V;have D:l.drop i=n::l.drop (i+1):=by rw[Yq om,(Y1.1 T).2]
  have C:all.length<=134:=by rw[e];simp only[Y0,Yj];omega
  refine gG 4 ?_;intro b7 w b;obtain⟨Y,Z,rfl,F,_⟩:=b.vS 1;refine gH 3 ?_;replace b:=(b.pick 1 O);try dsimp only[List.eraseIdx]at b
  refine gP 0 [] (Xuy Y Z all om _ _ (λw X h=>mj h (k:=1) O)) ?_;rintro _ w ⟨rfl,b⟩;refine gN 1 ?_ ?_<;>intro j
  ·refine gG 1 ?_;have d:(l.any λn=>!DD n)=false:=su o
   have G:(all.any λx=>x.ticket==n.ticket)=true:=by
    rw[<-cK _ all 0];exact decide_eq_true (by have M:=j;unfold Kf at M;omega)
   have t:Fc q l=(q,7):=by unfold Fc;rw[Y3 (nB d),Y7 (by rw[f,D,L9,G,Bool.true_or])]
   rw[t];exact⟨I,a,c,O,Le.refl _,H,Q,b.s⟩
  refine gG 7 ?_;intro ag af ah K w b;replace b:=(((b.pick 2 O).pick 1 O).drop (k:=2) O)
  have er:X2 X6 (all++[n])=X2 X6 all++[S n.ticket,S n.url,Ab n.tries,Ab n.next]:=by simp[X2,X6]
  have el:(all++[n]).length=all.length+1:=by simp
  have U:(all.any λx=>x.ticket==n.ticket)=false:=by
   rw[<-cK _ all 0];exact decide_eq_false (by have M:=j;unfold Kf at M;omega)
  refine Br (i+1,_,_) O ⟨om,?_,?_,by rw[er,el];exact b⟩
  ·rw[e,Yv,T,DO,Yg]
  ·rw[f,D,L9,U,dD]
 have R:i=l.length:=om
 subst R;rw[GK]at e;have g:L9 q l=false:=by rw[f,VC];rfl
 have d:(l.any λn=>!DD n)=false:=su o
 have C:all.length=q.length+l.length:=by rw[e,Y0]
 obtain⟨Y,Z,rfl,F,_⟩:=b.vS 0;refine gN 3 ?_ ?_<;>intro m
 ·refine gG 1 ?_;have t:Fc q l=(q,5):=by unfold Fc;rw[Y3 (nB d),Y3 (nB g),Y7 (oh m)]
  rw[t];exact⟨I,a,c,O,Le.refl _,H,Q,b.s⟩
 refine gG 6 ?_;intro w b;have t:Fc q l=(q++l,0):=by unfold Fc;rw[Y3 (nB d),Y3 (nB g),Y3 (oh m)]
 rw[t];subst e;obtain⟨J,hJ,P,b⟩:=b.fV 0;exact⟨J,Y,Z,O,hJ,P,F,b⟩
theorem Xjm(cells:α->Lv)(l:List α)(k:Nat):X2 cells l=X2 cells (l.take k)++X2 cells (l.drop k):=by
 conv=>lhs;rw[<-FA k l]
 unfold X2;rw[Yn,T5]
theorem S5{cells:α->Lv}{s:Nat}(a:∀x,(cells x).length=s)(l:List α)(r:Lv)(b:k<=l.length):(X2 cells l++r).take (k*s)=X2 cells (l.take k):=by
 have h:=TF a (l.take k);rw[Yj,JT b]at h;rw[Xjm cells l k,Yg,<-h,VE]
theorem S4{cells:α->Lv}{s:Nat}(a:∀x,(cells x).length=s)(l:List α)(r:Lv)(b:k<=l.length):(X2 cells l++r).drop (k*s)=X2 cells (l.drop k)++r:=by
 have h:=TF a (l.take k);rw[Yj,JT b]at h;rw[Xjm cells l k,Yg,<-h,kX]
theorem yl{α:Type}{cells:α->Lv}{s:Nat}(b:∀x,(cells x).length=s)(y:α)(v:Va)(k:Nat)(d:k<s)(r:Lv):∀(l:List α) (i:Nat) (x:α),l[i]?=some x->cells y=(cells x).set k v->(X2 cells l++r).set (i*s+k) v=X2 cells (l.set i y)++r
 | [],_,_,h,_=>by simp at h
 | a::l,0,x,h,c=>by
  cases h
  show(cells a++X2 cells l++r).set (0*s+k) v=cells y++X2 cells l++r
  rw[OE,Yl,Yg,u2 _ _ (by rw[b];exact d),c,Yg]
 | a::l,i+1,x,h,c=>by
  show(cells a++X2 cells l++r).set ((i+1)*s+k) v=cells a++X2 cells (l.set i y)++r
  rw[Yg,oQ _ _ (by rw[b,T8];omega),b,T8,show i*s+s+k-s=i*s+k by omega,yl b y v k d r l i x (su h) c,Yg]
theorem Xyf(l:List Nt)(i:Nat)(hi:i<l.length)(L:l.length<=100000)(s:Va)(N:La)(b:Aa B w I (Ao 103 4 s (l).length (X2 X6 (l))::N)):
  Cz 257 [s,Ab (i:Nat),Ab ((i:Int)+1)] w λv w'=>Aa B w' I (Ao 103 4 v (l.eraseIdx i).length (X2 X6 (l.eraseIdx i))::N):=by
 obtain⟨g,cap,r,rfl,H,p,J,K,b⟩:=b.AF (k:=0) O om;have o:∀x:Nt,(X6 x).length=4:=λ_=>rfl
 obtain⟨C,z,t⟩:∃C,sliced (some (ad g 0)) ((i:Int)+1).toNat l.length cap 4=.slice (some C) (l.length-(i+1)) (cap-(i+1))/\(0<l.length-(i+1)->C=ad g ((i+1)*4)):=by
  unfold sliced;rw[show((i:Int)+1).toNat=i+1 by omega];split
  ·exact⟨_,O,λh=>by omega⟩
  ·exact⟨_,O,λ_=>by(try dsimp only);rw[C7,Yl]⟩
 have y:sliced (some (ad g 0)) ((i+(l.length-(i+1)):Nat):Int).toNat (l.length:Int).toNat cap 4=.slice (some (ad g ((l.length-1)*4))) 1 (cap-(l.length-1)):=by
  unfold sliced
  (try rw[Yh]);rw[Yh,Y3 om,dC,C7,Yl,show i+(l.length-(i+1))=l.length-1 by omega,show l.length-(l.length-1)=1 by omega]
 have d:((X2 X6 l++r).drop ((i+1)*4)).take ((l.length-(i+1))*4)=X2 X6 (l.drop (i+1)):=by
  rw[S4 o l r om];have h:=TF o (l.drop (i+1));rw[Y6]at h;rw[<-h,VE]
 have A:=S5 o l r (k:=i) om;have q:l.eraseIdx i=l.take i++l.drop (i+1):=Y5d ..;have n:(l.eraseIdx i).length=l.length-1:=by rw[List.length_eraseIdx];split<;>omega
 have a:=TF o (l.eraseIdx i);have u:X2 X6 (l.eraseIdx i)=X2 X6 (l.take i)++X2 X6 (l.drop (i+1)):=by rw[q];unfold X2;rw[Yn,T5]
 refine gH 6 (.val (Ex.Aak (.of O) (.of O) (.of O) (.of O) om om om om TP QT) O (gU 3 (λD E=>?_)));refine gG 3 (gD [] [] [0,1,2,3,4,5,6,7] ?_);intro w b;refine gH 2 (AN.j 2 (λw=>.Fq (.of O) (.of O) om om TP QT) ?_)
 (try rw[Yh]);rw[show(⟨g,0,none⟩:Addr)=ad g 0 from O,wk]
 refine gH 2 (AN.j 5 (λw=>.CB (.of O) (.of O) om om TP QT) ?_);rw[z];refine AN.e ?_;refine .L3 (size:=4) b (k:=0) O (.of O) (.of O) t TP (i:=t103) kr O (by rw[Y0];omega) (by rw[d];exact Dy.1 (gK (λr=>rfl) _)) om (by rw[Y0];omega) O ?_;intro w b;rw[d,A,<-u]at b;refine gH 5 (.val (.slc (.of O) (.of O) (.of O) om om om TP QT) O ?_);rw[y];refine WL.clear (s:=4) b (k:=0) O (.of O) TP N4 O de (by simp only[Y0,Y6];omega) ?_;intro w f c m b;refine gG 2 ?_;have F:f.take ((l.length-1)*4)=X2 X6 (l.eraseIdx i):=by
  rw[m];rw[<-n,<-a,VE]
 have G:f=X2 X6 (l.eraseIdx i)++f.drop ((l.length-1)*4):=by rw[<-F];exact(FA _ _).symm
 rw[G]at b;rw[show i+(l.length-(i+1))=(l.eraseIdx i).length by omega];simp only[Y0,Y6]at c
 exact b.A1 (k:=0) O om p a (by rw[a,Y6,c];omega)
end Go.Proofs.W9
