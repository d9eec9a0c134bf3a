/- Go's library functions in this program are those that the library's contracts speak of. Go's library functions over texts: what they leave, out of the library's contracts. -/
import Derived.Shelf.Lays
import Derived.Shelf.Strings.Split
import Derived.Shelf.Strings.Cut
import Derived.Shelf.Strings.Prefix
import Derived.Shelf.Strings.OnBuilder
import Derived.Test.YtcikdogkkgefcaaGreatDoorMA26
namespace Go.Proofs.YtcikdogkkgefcaaGreatDoor
set_option maxRecDepth 8000
set_option maxHeartbeats 16000000
set_option linter.unusedVariables false
set_option linter.unusedSimpArgs false
open Go Go.RowKit
def zNi:Go.Shelf.Ren:=⟨fun|146=>34|221=>69|268=>113|138=>114|143=>115|195=>161|197=>162|218=>163|219=>164|260=>213|217=>214|225=>215|224=>216|267=>217|266=>250|314=>251|n=>n,fun|9=>9|31=>119|3=>3|4=>4|0=>0|105=>269|21=>21|5=>5|46=>320|119=>358|139=>361|138=>360|146=>363|51=>362|n=>n,fun|1=>0|3=>1|4=>2|n=>n⟩
theorem zVY:Go.Proofs.Lays.n146 Tryz.prog zNi where
 mixed:=by kernel_rfl
 f138:=Tryz.func114.trans (congrArg some (by kernel_rfl))
 f143:=Tryz.func115.trans (congrArg some (by kernel_rfl))
 f146:=Tryz.func34.trans (congrArg some (by kernel_rfl))
 f195:=Tryz.func161.trans (congrArg some (by kernel_rfl))
 f197:=Tryz.func162.trans (congrArg some (by kernel_rfl))
 f217:=Tryz.func214.trans (congrArg some (by kernel_rfl))
 f218:=Tryz.func163.trans (congrArg some (by kernel_rfl))
 f219:=Tryz.func164.trans (congrArg some (by kernel_rfl))
 f221:=Tryz.func69.trans (congrArg some (by kernel_rfl))
 f224:=Tryz.func216.trans (congrArg some (by kernel_rfl))
 f225:=Tryz.func215.trans (congrArg some (by kernel_rfl))
 f260:=Tryz.func213.trans (congrArg some (by kernel_rfl))
 f266:=Tryz.func250.trans (congrArg some (by kernel_rfl))
 f267:=Tryz.func217.trans (congrArg some (by kernel_rfl))
 f268:=Tryz.func113.trans (congrArg some (by kernel_rfl))
 f314:=Tryz.func251.trans (congrArg some (by kernel_rfl))
 t0:=Tryz.underlying0
 a0:=Tryz.isAgg0
 z0:=Tryz.sizeOf0
 v0:=Tryz.zeroValue0
 t3:=Tryz.underlying3
 a3:=Tryz.isAgg3
 z3:=Tryz.sizeOf3
 v3:=Tryz.zeroValue3
 t4:=Tryz.underlying4
 a4:=Tryz.isAgg4
 z4:=Tryz.sizeOf4
 v4:=Tryz.zeroValue4
 t5:=Tryz.underlying5
 a5:=Tryz.isAgg5
 z5:=Tryz.sizeOf5
 v5:=Tryz.zeroValue5
 t9:=Tryz.underlying9
 a9:=Tryz.isAgg9
 z9:=Tryz.sizeOf9
 v9:=Tryz.zeroValue9
 t21:=Tryz.underlying21
 a21:=Tryz.isAgg21
 z21:=Tryz.sizeOf21
 v21:=Tryz.zeroValue21
 t31:=Tryz.underlying119
 a31:=Tryz.isAgg119
 z31:=Tryz.sizeOf119
 v31:=Tryz.zeroValue119
 t46:=Tryz.underlying320
 a46:=Tryz.isAgg320
 z46:=Tryz.sizeOf320
 v46:=Tryz.zeroValue320
 t51:=Tryz.underlying362
 a51:=Tryz.isAgg362
 z51:=Tryz.sizeOf362
 v51:=Tryz.zeroValue362
 t105:=Tryz.underlying269
 a105:=Tryz.isAgg269
 z105:=Tryz.sizeOf269
 v105:=Tryz.zeroValue269
 t119:=Tryz.underlying358
 a119:=Tryz.isAgg358
 z119:=Tryz.sizeOf358
 t138:=Tryz.underlying360
 a138:=Tryz.isAgg360
 z138:=Tryz.sizeOf360
 v138:=Tryz.zeroValue360
 t139:=Tryz.underlying361
 a139:=Tryz.isAgg361
 z139:=Tryz.sizeOf361
 v139:=Tryz.zeroValue361
 t146:=Tryz.underlying363
 a146:=Tryz.isAgg363
 z146:=Tryz.sizeOf363
 v146:=Tryz.zeroValue363
 g1:=by kernel_rfl
 g3:=by kernel_rfl
 g4:=by kernel_rfl
def zEJ:Go.Shelf.Ren:=⟨fun|156=>275|165=>288|166=>130|169=>133|240=>174|241=>293|276=>228|277=>294|n=>n,fun|31=>119|9=>9|3=>3|4=>4|0=>0|20=>20|72=>231|76=>223|70=>228|37=>229|75=>222|127=>281|164=>332|5=>5|80=>235|n=>n,fun|n=>n⟩
theorem zKu:Go.Proofs.Lays.n156 Tryz.prog zEJ where
 mixed:=by kernel_rfl
 f156:=Tryz.func275.trans (congrArg some (by kernel_rfl))
 f165:=Tryz.func288.trans (congrArg some (by kernel_rfl))
 f166:=Tryz.func130.trans (congrArg some (by kernel_rfl))
 f169:=Tryz.func133.trans (congrArg some (by kernel_rfl))
 f240:=Tryz.func174.trans (congrArg some (by kernel_rfl))
 f241:=Tryz.func293.trans (congrArg some (by kernel_rfl))
 f276:=Tryz.func228.trans (congrArg some (by kernel_rfl))
 f277:=Tryz.func294.trans (congrArg some (by kernel_rfl))
 t0:=Tryz.underlying0
 a0:=Tryz.isAgg0
 z0:=Tryz.sizeOf0
 v0:=Tryz.zeroValue0
 t3:=Tryz.underlying3
 a3:=Tryz.isAgg3
 z3:=Tryz.sizeOf3
 v3:=Tryz.zeroValue3
 t4:=Tryz.underlying4
 a4:=Tryz.isAgg4
 z4:=Tryz.sizeOf4
 v4:=Tryz.zeroValue4
 t9:=Tryz.underlying9
 a9:=Tryz.isAgg9
 z9:=Tryz.sizeOf9
 v9:=Tryz.zeroValue9
 t20:=Tryz.underlying20
 a20:=Tryz.isAgg20
 z20:=Tryz.sizeOf20
 v20:=Tryz.zeroValue20
 t31:=Tryz.underlying119
 a31:=Tryz.isAgg119
 z31:=Tryz.sizeOf119
 v31:=Tryz.zeroValue119
 t37:=Tryz.underlying229
 a37:=Tryz.isAgg229
 z37:=Tryz.sizeOf229
 v37:=Tryz.zeroValue229
 t70:=Tryz.underlying228
 a70:=Tryz.isAgg228
 z70:=Tryz.sizeOf228
 v70:=Tryz.zeroValue228
 t72:=Tryz.underlying231
 a72:=Tryz.isAgg231
 z72:=Tryz.sizeOf231
 v72:=Tryz.zeroValue231
 t75:=Tryz.underlying222
 a75:=Tryz.isAgg222
 z75:=Tryz.sizeOf222
 v75:=Tryz.zeroValue222
 t76:=Tryz.underlying223
 a76:=Tryz.isAgg223
 z76:=Tryz.sizeOf223
 v76:=Tryz.zeroValue223
 t127:=Tryz.underlying281
 a127:=Tryz.isAgg281
 z127:=Tryz.sizeOf281
 v127:=Tryz.zeroValue281
 t164:=Tryz.underlying332
 a164:=Tryz.isAgg332
 z164:=Tryz.sizeOf332
 v164:=Tryz.zeroValue332
def zNj:Go.Shelf.Ren:=⟨fun|145=>277|220=>290|219=>164|217=>214|225=>215|224=>216|267=>217|266=>250|314=>251|n=>n,fun|9=>9|4=>4|59=>384|3=>3|5=>5|46=>320|146=>363|51=>362|n=>n,fun|1=>0|n=>n⟩
theorem zVZ:Go.Proofs.Lays.n145 Tryz.prog zNj where
 mixed:=by kernel_rfl
 f145:=Tryz.func277.trans (congrArg some (by kernel_rfl))
 f217:=Tryz.func214.trans (congrArg some (by kernel_rfl))
 f219:=Tryz.func164.trans (congrArg some (by kernel_rfl))
 f220:=Tryz.func290.trans (congrArg some (by kernel_rfl))
 f224:=Tryz.func216.trans (congrArg some (by kernel_rfl))
 f225:=Tryz.func215.trans (congrArg some (by kernel_rfl))
 f266:=Tryz.func250.trans (congrArg some (by kernel_rfl))
 f267:=Tryz.func217.trans (congrArg some (by kernel_rfl))
 f314:=Tryz.func251.trans (congrArg some (by kernel_rfl))
 t3:=Tryz.underlying3
 a3:=Tryz.isAgg3
 z3:=Tryz.sizeOf3
 v3:=Tryz.zeroValue3
 t4:=Tryz.underlying4
 a4:=Tryz.isAgg4
 z4:=Tryz.sizeOf4
 v4:=Tryz.zeroValue4
 t5:=Tryz.underlying5
 a5:=Tryz.isAgg5
 z5:=Tryz.sizeOf5
 v5:=Tryz.zeroValue5
 t9:=Tryz.underlying9
 a9:=Tryz.isAgg9
 z9:=Tryz.sizeOf9
 v9:=Tryz.zeroValue9
 t46:=Tryz.underlying320
 a46:=Tryz.isAgg320
 z46:=Tryz.sizeOf320
 v46:=Tryz.zeroValue320
 t51:=Tryz.underlying362
 a51:=Tryz.isAgg362
 z51:=Tryz.sizeOf362
 v51:=Tryz.zeroValue362
 t59:=Tryz.underlying384
 a59:=Tryz.isAgg384
 z59:=Tryz.sizeOf384
 v59:=Tryz.zeroValue384
 t146:=Tryz.underlying363
 a146:=Tryz.isAgg363
 z146:=Tryz.sizeOf363
 v146:=Tryz.zeroValue363
 g1:=by kernel_rfl
def zNl:Go.Shelf.Ren:=⟨fun|102=>243|209=>276|207=>289|n=>n,fun|9=>9|4=>4|3=>3|n=>n,fun|n=>n⟩
theorem zVb:Go.Proofs.Lays.n102 Tryz.prog zNl where
 mixed:=by kernel_rfl
 f102:=Tryz.func243.trans (congrArg some (by kernel_rfl))
 f207:=Tryz.func289.trans (congrArg some (by kernel_rfl))
 f209:=Tryz.func276.trans (congrArg some (by kernel_rfl))
 t3:=Tryz.underlying3
 a3:=Tryz.isAgg3
 z3:=Tryz.sizeOf3
 v3:=Tryz.zeroValue3
 t4:=Tryz.underlying4
 a4:=Tryz.isAgg4
 z4:=Tryz.sizeOf4
 v4:=Tryz.zeroValue4
 t9:=Tryz.underlying9
 a9:=Tryz.isAgg9
 z9:=Tryz.sizeOf9
 v9:=Tryz.zeroValue9
def zNk:Go.Shelf.Ren:=⟨fun|103=>187|210=>238|206=>269|n=>n,fun|9=>9|4=>4|24=>295|3=>3|n=>n,fun|n=>n⟩
theorem zVa:Go.Proofs.Lays.n103 Tryz.prog zNk where
 mixed:=by kernel_rfl
 f103:=Tryz.func187.trans (congrArg some (by kernel_rfl))
 f206:=Tryz.func269.trans (congrArg some (by kernel_rfl))
 f210:=Tryz.func238.trans (congrArg some (by kernel_rfl))
 t3:=Tryz.underlying3
 a3:=Tryz.isAgg3
 z3:=Tryz.sizeOf3
 v3:=Tryz.zeroValue3
 t4:=Tryz.underlying4
 a4:=Tryz.isAgg4
 z4:=Tryz.sizeOf4
 v4:=Tryz.zeroValue4
 t9:=Tryz.underlying9
 a9:=Tryz.isAgg9
 z9:=Tryz.sizeOf9
 v9:=Tryz.zeroValue9
 t24:=Tryz.underlying295
 a24:=Tryz.isAgg295
 z24:=Tryz.sizeOf295
 v24:=Tryz.zeroValue295
def zNd:Go.Shelf.Ren:=⟨fun|238=>142|273=>181|197=>162|271=>232|260=>213|120=>262|n=>n,fun|9=>9|40=>122|4=>4|3=>3|105=>269|21=>21|5=>5|119=>358|0=>0|46=>320|139=>361|138=>360|n=>n,fun|3=>1|4=>2|n=>n⟩
theorem zVT:Go.Proofs.Lays.n238 Tryz.prog zNd where
 mixed:=by kernel_rfl
 f120:=Tryz.func262.trans (congrArg some (by kernel_rfl))
 f197:=Tryz.func162.trans (congrArg some (by kernel_rfl))
 f238:=Tryz.func142.trans (congrArg some (by kernel_rfl))
 f260:=Tryz.func213.trans (congrArg some (by kernel_rfl))
 f271:=Tryz.func232.trans (congrArg some (by kernel_rfl))
 f273:=Tryz.func181.trans (congrArg some (by kernel_rfl))
 t0:=Tryz.underlying0
 a0:=Tryz.isAgg0
 z0:=Tryz.sizeOf0
 v0:=Tryz.zeroValue0
 t3:=Tryz.underlying3
 a3:=Tryz.isAgg3
 z3:=Tryz.sizeOf3
 v3:=Tryz.zeroValue3
 t4:=Tryz.underlying4
 a4:=Tryz.isAgg4
 z4:=Tryz.sizeOf4
 v4:=Tryz.zeroValue4
 t5:=Tryz.underlying5
 a5:=Tryz.isAgg5
 z5:=Tryz.sizeOf5
 v5:=Tryz.zeroValue5
 t9:=Tryz.underlying9
 a9:=Tryz.isAgg9
 z9:=Tryz.sizeOf9
 v9:=Tryz.zeroValue9
 t21:=Tryz.underlying21
 a21:=Tryz.isAgg21
 z21:=Tryz.sizeOf21
 v21:=Tryz.zeroValue21
 t40:=Tryz.underlying122
 a40:=Tryz.isAgg122
 z40:=Tryz.sizeOf122
 v40:=Tryz.zeroValue122
 t46:=Tryz.underlying320
 a46:=Tryz.isAgg320
 z46:=Tryz.sizeOf320
 v46:=Tryz.zeroValue320
 t105:=Tryz.underlying269
 a105:=Tryz.isAgg269
 z105:=Tryz.sizeOf269
 v105:=Tryz.zeroValue269
 t119:=Tryz.underlying358
 a119:=Tryz.isAgg358
 z119:=Tryz.sizeOf358
 t138:=Tryz.underlying360
 a138:=Tryz.isAgg360
 z138:=Tryz.sizeOf360
 v138:=Tryz.zeroValue360
 t139:=Tryz.underlying361
 a139:=Tryz.isAgg361
 z139:=Tryz.sizeOf361
 v139:=Tryz.zeroValue361
 g3:=by kernel_rfl
 g4:=by kernel_rfl
def zNh:Go.Shelf.Ren:=⟨fun|157=>233|229=>35|199=>263|261=>284|311=>291|312=>292|n=>n,fun|9=>9|31=>119|3=>3|5=>5|4=>4|119=>358|0=>0|40=>122|152=>156|21=>21|154=>158|51=>362|141=>393|196=>402|193=>399|198=>405|49=>403|194=>400|201=>408|226=>411|46=>320|227=>412|n=>n,fun|0=>6|6=>7|n=>n⟩
theorem zVX:Go.Proofs.Lays.n157 Tryz.prog zNh where
 mixed:=by kernel_rfl
 f157:=Tryz.func233.trans (congrArg some (by kernel_rfl))
 f199:=Tryz.func263.trans (congrArg some (by kernel_rfl))
 f229:=Tryz.func35.trans (congrArg some (by kernel_rfl))
 f261:=Tryz.func284.trans (congrArg some (by kernel_rfl))
 f311:=Tryz.func291.trans (congrArg some (by kernel_rfl))
 f312:=Tryz.func292.trans (congrArg some (by kernel_rfl))
 t0:=Tryz.underlying0
 a0:=Tryz.isAgg0
 z0:=Tryz.sizeOf0
 v0:=Tryz.zeroValue0
 t3:=Tryz.underlying3
 a3:=Tryz.isAgg3
 z3:=Tryz.sizeOf3
 v3:=Tryz.zeroValue3
 t4:=Tryz.underlying4
 a4:=Tryz.isAgg4
 z4:=Tryz.sizeOf4
 v4:=Tryz.zeroValue4
 t5:=Tryz.underlying5
 a5:=Tryz.isAgg5
 z5:=Tryz.sizeOf5
 v5:=Tryz.zeroValue5
 t9:=Tryz.underlying9
 a9:=Tryz.isAgg9
 z9:=Tryz.sizeOf9
 v9:=Tryz.zeroValue9
 t21:=Tryz.underlying21
 a21:=Tryz.isAgg21
 z21:=Tryz.sizeOf21
 v21:=Tryz.zeroValue21
 t31:=Tryz.underlying119
 a31:=Tryz.isAgg119
 z31:=Tryz.sizeOf119
 v31:=Tryz.zeroValue119
 t40:=Tryz.underlying122
 a40:=Tryz.isAgg122
 z40:=Tryz.sizeOf122
 v40:=Tryz.zeroValue122
 t46:=Tryz.underlying320
 a46:=Tryz.isAgg320
 z46:=Tryz.sizeOf320
 v46:=Tryz.zeroValue320
 t49:=Tryz.underlying403
 a49:=Tryz.isAgg403
 z49:=Tryz.sizeOf403
 v49:=Tryz.zeroValue403
 t51:=Tryz.underlying362
 a51:=Tryz.isAgg362
 z51:=Tryz.sizeOf362
 v51:=Tryz.zeroValue362
 t119:=Tryz.underlying358
 a119:=Tryz.isAgg358
 z119:=Tryz.sizeOf358
 t141:=Tryz.underlying393
 a141:=Tryz.isAgg393
 z141:=Tryz.sizeOf393
 v141:=Tryz.zeroValue393
 t152:=Tryz.underlying156
 a152:=Tryz.isAgg156
 z152:=Tryz.sizeOf156
 v152:=Tryz.zeroValue156
 t154:=Tryz.underlying158
 a154:=Tryz.isAgg158
 z154:=Tryz.sizeOf158
 v154:=Tryz.zeroValue158
 t193:=Tryz.underlying399
 a193:=Tryz.isAgg399
 z193:=Tryz.sizeOf399
 v193:=Tryz.zeroValue399
 t194:=Tryz.underlying400
 a194:=Tryz.isAgg400
 z194:=Tryz.sizeOf400
 v194:=Tryz.zeroValue400
 t196:=Tryz.underlying402
 a196:=Tryz.isAgg402
 z196:=Tryz.sizeOf402
 v196:=Tryz.zeroValue402
 t198:=Tryz.underlying405
 a198:=Tryz.isAgg405
 z198:=Tryz.sizeOf405
 v198:=Tryz.zeroValue405
 t201:=Tryz.underlying408
 a201:=Tryz.isAgg408
 z201:=Tryz.sizeOf408
 v201:=Tryz.zeroValue408
 t226:=Tryz.underlying411
 a226:=Tryz.isAgg411
 z226:=Tryz.sizeOf411
 v226:=Tryz.zeroValue411
 t227:=Tryz.underlying412
 a227:=Tryz.isAgg412
 z227:=Tryz.sizeOf412
 v227:=Tryz.zeroValue412
 g0:=by kernel_rfl
 g6:=by kernel_rfl
def zNe:Go.Shelf.Ren:=⟨fun|229=>35|n=>n,fun|9=>9|40=>122|31=>119|152=>156|3=>3|0=>0|4=>4|21=>21|154=>158|n=>n,fun|n=>n⟩
theorem zVU:Go.Proofs.Lays.n229 Tryz.prog zNe where
 mixed:=by kernel_rfl
 f229:=Tryz.func35.trans (congrArg some (by kernel_rfl))
 t0:=Tryz.underlying0
 a0:=Tryz.isAgg0
 z0:=Tryz.sizeOf0
 v0:=Tryz.zeroValue0
 t3:=Tryz.underlying3
 a3:=Tryz.isAgg3
 z3:=Tryz.sizeOf3
 v3:=Tryz.zeroValue3
 t4:=Tryz.underlying4
 a4:=Tryz.isAgg4
 z4:=Tryz.sizeOf4
 v4:=Tryz.zeroValue4
 t9:=Tryz.underlying9
 a9:=Tryz.isAgg9
 z9:=Tryz.sizeOf9
 v9:=Tryz.zeroValue9
 t21:=Tryz.underlying21
 a21:=Tryz.isAgg21
 z21:=Tryz.sizeOf21
 v21:=Tryz.zeroValue21
 t31:=Tryz.underlying119
 a31:=Tryz.isAgg119
 z31:=Tryz.sizeOf119
 v31:=Tryz.zeroValue119
 t40:=Tryz.underlying122
 a40:=Tryz.isAgg122
 z40:=Tryz.sizeOf122
 v40:=Tryz.zeroValue122
 t152:=Tryz.underlying156
 a152:=Tryz.isAgg156
 z152:=Tryz.sizeOf156
 v152:=Tryz.zeroValue156
 t154:=Tryz.underlying158
 a154:=Tryz.isAgg158
 z154:=Tryz.sizeOf158
 v154:=Tryz.zeroValue158
def zNg:Go.Shelf.Ren:=⟨fun|171=>74|243=>128|246=>172|283=>224|284=>225|285=>226|286=>227|129=>256|317=>255|318=>257|319=>258|320=>259|337=>282|338=>283|n=>n,fun|3=>3|9=>9|2=>2|4=>4|171=>327|0=>0|53=>34|37=>229|5=>5|173=>330|212=>370|51=>362|20=>20|213=>371|46=>320|232=>397|233=>398|n=>n,fun|17=>5|18=>8|19=>9|n=>n⟩
theorem zVW:Go.Proofs.Lays.n171 Tryz.prog zNg where
 mixed:=by kernel_rfl
 f129:=Tryz.func256.trans (congrArg some (by kernel_rfl))
 f171:=Tryz.func74.trans (congrArg some (by kernel_rfl))
 f243:=Tryz.func128.trans (congrArg some (by kernel_rfl))
 f246:=Tryz.func172.trans (congrArg some (by kernel_rfl))
 f283:=Tryz.func224.trans (congrArg some (by kernel_rfl))
 f284:=Tryz.func225.trans (congrArg some (by kernel_rfl))
 f285:=Tryz.func226.trans (congrArg some (by kernel_rfl))
 f286:=Tryz.func227.trans (congrArg some (by kernel_rfl))
 f317:=Tryz.func255.trans (congrArg some (by kernel_rfl))
 f318:=Tryz.func257.trans (congrArg some (by kernel_rfl))
 f319:=Tryz.func258.trans (congrArg some (by kernel_rfl))
 f320:=Tryz.func259.trans (congrArg some (by kernel_rfl))
 f337:=Tryz.func282.trans (congrArg some (by kernel_rfl))
 f338:=Tryz.func283.trans (congrArg some (by kernel_rfl))
 t0:=Tryz.underlying0
 a0:=Tryz.isAgg0
 z0:=Tryz.sizeOf0
 v0:=Tryz.zeroValue0
 t2:=Tryz.underlying2
 a2:=Tryz.isAgg2
 z2:=Tryz.sizeOf2
 v2:=Tryz.zeroValue2
 t3:=Tryz.underlying3
 a3:=Tryz.isAgg3
 z3:=Tryz.sizeOf3
 v3:=Tryz.zeroValue3
 t4:=Tryz.underlying4
 a4:=Tryz.isAgg4
 z4:=Tryz.sizeOf4
 v4:=Tryz.zeroValue4
 t5:=Tryz.underlying5
 a5:=Tryz.isAgg5
 z5:=Tryz.sizeOf5
 v5:=Tryz.zeroValue5
 t9:=Tryz.underlying9
 a9:=Tryz.isAgg9
 z9:=Tryz.sizeOf9
 v9:=Tryz.zeroValue9
 t20:=Tryz.underlying20
 a20:=Tryz.isAgg20
 z20:=Tryz.sizeOf20
 v20:=Tryz.zeroValue20
 t37:=Tryz.underlying229
 a37:=Tryz.isAgg229
 z37:=Tryz.sizeOf229
 v37:=Tryz.zeroValue229
 t46:=Tryz.underlying320
 a46:=Tryz.isAgg320
 z46:=Tryz.sizeOf320
 v46:=Tryz.zeroValue320
 t51:=Tryz.underlying362
 a51:=Tryz.isAgg362
 z51:=Tryz.sizeOf362
 v51:=Tryz.zeroValue362
 t53:=Tryz.underlying34
 a53:=Tryz.isAgg34
 z53:=Tryz.sizeOf34
 v53:=Tryz.zeroValue34
 t171:=Tryz.underlying327
 a171:=Tryz.isAgg327
 z171:=Tryz.sizeOf327
 v171:=Tryz.zeroValue327
 t173:=Tryz.underlying330
 a173:=Tryz.isAgg330
 z173:=Tryz.sizeOf330
 v173:=Tryz.zeroValue330
 t212:=Tryz.underlying370
 a212:=Tryz.isAgg370
 z212:=Tryz.sizeOf370
 v212:=Tryz.zeroValue370
 t213:=Tryz.underlying371
 a213:=Tryz.isAgg371
 z213:=Tryz.sizeOf371
 t232:=Tryz.underlying397
 a232:=Tryz.isAgg397
 z232:=Tryz.sizeOf397
 v232:=Tryz.zeroValue397
 t233:=Tryz.underlying398
 a233:=Tryz.isAgg398
 z233:=Tryz.sizeOf398
 v233:=Tryz.zeroValue398
 g17:=by kernel_rfl
 g18:=by kernel_rfl
 g19:=by kernel_rfl
def zNf:Go.Shelf.Ren:=⟨fun|172=>121|244=>168|245=>169|247=>219|279=>220|280=>221|281=>222|282=>223|287=>252|316=>253|171=>74|205=>254|321=>280|322=>281|243=>128|246=>172|283=>224|284=>225|285=>226|286=>227|129=>256|317=>255|318=>257|319=>258|320=>259|337=>282|338=>283|n=>n,fun|9=>9|3=>3|75=>222|76=>223|4=>4|5=>5|167=>321|37=>229|0=>0|85=>322|2=>2|168=>324|53=>34|175=>365|46=>320|210=>368|127=>281|145=>390|143=>388|21=>21|171=>327|173=>330|212=>370|51=>362|20=>20|213=>371|232=>397|233=>398|80=>235|n=>n,fun|15=>3|16=>4|17=>5|18=>8|19=>9|n=>n⟩
theorem zVV:Go.Proofs.Lays.n172 Tryz.prog zNf where
 mixed:=by kernel_rfl
 f129:=Tryz.func256.trans (congrArg some (by kernel_rfl))
 f171:=Tryz.func74.trans (congrArg some (by kernel_rfl))
 f172:=Tryz.func121.trans (congrArg some (by kernel_rfl))
 f205:=Tryz.func254.trans (congrArg some (by kernel_rfl))
 f243:=Tryz.func128.trans (congrArg some (by kernel_rfl))
 f244:=Tryz.func168.trans (congrArg some (by kernel_rfl))
 f245:=Tryz.func169.trans (congrArg some (by kernel_rfl))
 f246:=Tryz.func172.trans (congrArg some (by kernel_rfl))
 f247:=Tryz.func219.trans (congrArg some (by kernel_rfl))
 f279:=Tryz.func220.trans (congrArg some (by kernel_rfl))
 f280:=Tryz.func221.trans (congrArg some (by kernel_rfl))
 f281:=Tryz.func222.trans (congrArg some (by kernel_rfl))
 f282:=Tryz.func223.trans (congrArg some (by kernel_rfl))
 f283:=Tryz.func224.trans (congrArg some (by kernel_rfl))
 f284:=Tryz.func225.trans (congrArg some (by kernel_rfl))
 f285:=Tryz.func226.trans (congrArg some (by kernel_rfl))
 f286:=Tryz.func227.trans (congrArg some (by kernel_rfl))
 f287:=Tryz.func252.trans (congrArg some (by kernel_rfl))
 f316:=Tryz.func253.trans (congrArg some (by kernel_rfl))
 f317:=Tryz.func255.trans (congrArg some (by kernel_rfl))
 f318:=Tryz.func257.trans (congrArg some (by kernel_rfl))
 f319:=Tryz.func258.trans (congrArg some (by kernel_rfl))
 f320:=Tryz.func259.trans (congrArg some (by kernel_rfl))
 f321:=Tryz.func280.trans (congrArg some (by kernel_rfl))
 f322:=Tryz.func281.trans (congrArg some (by kernel_rfl))
 f337:=Tryz.func282.trans (congrArg some (by kernel_rfl))
 f338:=Tryz.func283.trans (congrArg some (by kernel_rfl))
 t0:=Tryz.underlying0
 a0:=Tryz.isAgg0
 z0:=Tryz.sizeOf0
 v0:=Tryz.zeroValue0
 t2:=Tryz.underlying2
 a2:=Tryz.isAgg2
 z2:=Tryz.sizeOf2
 v2:=Tryz.zeroValue2
 t3:=Tryz.underlying3
 a3:=Tryz.isAgg3
 z3:=Tryz.sizeOf3
 v3:=Tryz.zeroValue3
 t4:=Tryz.underlying4
 a4:=Tryz.isAgg4
 z4:=Tryz.sizeOf4
 v4:=Tryz.zeroValue4
 t5:=Tryz.underlying5
 a5:=Tryz.isAgg5
 z5:=Tryz.sizeOf5
 v5:=Tryz.zeroValue5
 t9:=Tryz.underlying9
 a9:=Tryz.isAgg9
 z9:=Tryz.sizeOf9
 v9:=Tryz.zeroValue9
 t20:=Tryz.underlying20
 a20:=Tryz.isAgg20
 z20:=Tryz.sizeOf20
 v20:=Tryz.zeroValue20
 t21:=Tryz.underlying21
 a21:=Tryz.isAgg21
 z21:=Tryz.sizeOf21
 v21:=Tryz.zeroValue21
 t37:=Tryz.underlying229
 a37:=Tryz.isAgg229
 z37:=Tryz.sizeOf229
 v37:=Tryz.zeroValue229
 t46:=Tryz.underlying320
 a46:=Tryz.isAgg320
 z46:=Tryz.sizeOf320
 v46:=Tryz.zeroValue320
 t51:=Tryz.underlying362
 a51:=Tryz.isAgg362
 z51:=Tryz.sizeOf362
 v51:=Tryz.zeroValue362
 t53:=Tryz.underlying34
 a53:=Tryz.isAgg34
 z53:=Tryz.sizeOf34
 v53:=Tryz.zeroValue34
 t75:=Tryz.underlying222
 a75:=Tryz.isAgg222
 z75:=Tryz.sizeOf222
 v75:=Tryz.zeroValue222
 t76:=Tryz.underlying223
 a76:=Tryz.isAgg223
 z76:=Tryz.sizeOf223
 v76:=Tryz.zeroValue223
 t85:=Tryz.underlying322
 a85:=Tryz.isAgg322
 z85:=Tryz.sizeOf322
 v85:=Tryz.zeroValue322
 t127:=Tryz.underlying281
 a127:=Tryz.isAgg281
 z127:=Tryz.sizeOf281
 v127:=Tryz.zeroValue281
 t143:=Tryz.underlying388
 a143:=Tryz.isAgg388
 z143:=Tryz.sizeOf388
 v143:=Tryz.zeroValue388
 t145:=Tryz.underlying390
 a145:=Tryz.isAgg390
 z145:=Tryz.sizeOf390
 v145:=Tryz.zeroValue390
 t167:=Tryz.underlying321
 a167:=Tryz.isAgg321
 z167:=Tryz.sizeOf321
 v167:=Tryz.zeroValue321
 t168:=Tryz.underlying324
 a168:=Tryz.isAgg324
 z168:=Tryz.sizeOf324
 v168:=Tryz.zeroValue324
 t171:=Tryz.underlying327
 a171:=Tryz.isAgg327
 z171:=Tryz.sizeOf327
 v171:=Tryz.zeroValue327
 t173:=Tryz.underlying330
 a173:=Tryz.isAgg330
 z173:=Tryz.sizeOf330
 v173:=Tryz.zeroValue330
 t175:=Tryz.underlying365
 a175:=Tryz.isAgg365
 z175:=Tryz.sizeOf365
 v175:=Tryz.zeroValue365
 t210:=Tryz.underlying368
 a210:=Tryz.isAgg368
 z210:=Tryz.sizeOf368
 v210:=Tryz.zeroValue368
 t212:=Tryz.underlying370
 a212:=Tryz.isAgg370
 z212:=Tryz.sizeOf370
 v212:=Tryz.zeroValue370
 t213:=Tryz.underlying371
 a213:=Tryz.isAgg371
 z213:=Tryz.sizeOf371
 t232:=Tryz.underlying397
 a232:=Tryz.isAgg397
 z232:=Tryz.sizeOf397
 v232:=Tryz.zeroValue397
 t233:=Tryz.underlying398
 a233:=Tryz.isAgg398
 z233:=Tryz.sizeOf398
 v233:=Tryz.zeroValue398
 g15:=by kernel_rfl
 g16:=by kernel_rfl
 g17:=by kernel_rfl
 g18:=by kernel_rfl
 g19:=by kernel_rfl
def strL (s:ByteArray):List Value:=[.string s]
theorem zBU (s:ByteArray):(strL s).length=1:=rfl
theorem zEc (l:List ByteArray):l.flatMap strL=l.map Value.string:=by
 induction l with
 | nil=>rfl
 | cons a l ih=>rw[List.flatMap_cons,List.map_cons,ih];rfl
theorem Sl.str {ρ:List (Nat × Obj)}{p:Option Addr}{cap:Nat}{l:List ByteArray}(h:Sl ρ strL 1 (.slice p l.length cap) l){i:Nat}(hi:i<l.length):∃b off cs el fr,p=some ⟨b,off,none⟩∧(b,Obj.cells (List.toArray cs) el fr) ∈ ρ∧cs[off+i]? = some (.string l[i]):=by
 obtain⟨p',cap',e,_,_,h4⟩:=h.val;simp only[Value.slice.injEq]at e;obtain⟨rfl,-,rfl⟩:=e;obtain⟨b,off,cs,el,fr,e1,e2,e3⟩:=h4 (by omega);refine⟨b,off,cs,el,fr,e1,e2,?_⟩;have:=zC5 (e3 i hi);rwa [Nat.mul_one]at this
structure Vars (we:World):Prop where
 longest:∃m,we.cell? ⟨0,0,none⟩=some (pI m)
def zBD (s sep:ByteArray):List ByteArray:=Lib.splitB sep 0 (Lib.countB s sep) s
def zIf (l:List ByteArray)(sep:ByteArray):ByteArray:=⟨(Lib.join (l.map (·.data.toList)) sep.data.toList).toArray⟩
def cutS (s sep:ByteArray):ByteArray × ByteArray × Bool:=(⟨(Lib.cut s.data.toList sep.data.toList).1.toArray⟩,⟨(Lib.cut s.data.toList sep.data.toList).2.1.toArray⟩,(Lib.cut s.data.toList sep.data.toList).2.2)
def zC4 (s p:ByteArray):ByteArray:=⟨(Lib.trimSuffix s.data.toList p.data.toList).toArray⟩
section
variable {P:Program}{n:Nat}{e:Env}{t t' ty:TypeId}{x y:Operand}{S:World→Prop}
theorem Still.addS {s1 s2:ByteArray}(hx:ev e x=some (.string s1))(hy:ev e y=some (.string s2))(hz:s1.size+s2.size≤1000000):Still P n e S (.binOp .add t x y t') ty (.string (s1++s2)) :=
 Still.bin hx hy (fun w=>by simp[eqGuard]) (fun w _=>by
  show(Op.stringOp .add s1 s2).run P w=_;unfold Op.stringOp;rw[if_neg (by have:IntKind.i64.max=9223372036854775807:=rfl;rw[this];omega)];rfl)
end
section
variable {we w:World}{ρ:List (Nat × Obj)}{σ F:List HP}{v:Value}
theorem St.below_grow {w':World}(h:St we ρ σ w)(hb:Below w.heap.size w w'):St we ρ σ w':=h.grow hb.os hb.tape hb.output hb.size hb.block
theorem zDz {a:Addr}{u:Value}(h:St we ρ σ w)(hc:we.cell? a=some u):w.cell? a=some u:=by
 unfold World.cell? at hc ⊢;by_cases hk:a.block<we.heap.size
 · rw[h.below.block _ hk];exact hc
 · rw[Array.getElem?_eq_none (by omega)]at hc
   cases hc
theorem hi9S:(Tryz.prog.info? 9).map (fun i=>(i.zero,i.size,i.bytes))=some (some (.string ByteArray.empty),1,16):=by kernel_rfl
theorem zB1 {s sep:ByteArray}(hv:Vars we)(hs:s.size<4294967281)(h1:1≤sep.size)(hS:St we ρ σ w) :
 Cl Tryz.prog 34 [.string s,.string sep] w fun v w'=>St we ρ (Vec 9 1 v (zBD s sep).length ((zBD s sep).flatMap strL) :: σ) w':=by
 obtain⟨m,hm⟩:=hv.longest;have hlen:(zBD s sep).length=Lib.countB s sep+1:=Lib.splitB_all sep h1 0 _ s rfl;have hle:=Lib.countB_le sep h1 s.size s (Nat.le_refl _);refine⟨(Any.strings_Split zVY hi9S s sep m w hs (zDz hS hm) h1).mono fun e w' ⟨h,hw⟩=>?_⟩;subst h hw;show St we ρ (Vec 9 1 _ (zBD s sep).length ((zBD s sep).flatMap strL) :: σ) _;rw[hlen];refine zBF (hS.alloc _) (Nat.le_refl _) (by unfold maxLen;omega) (by rw[List.length_map];show(zBD s sep).length=_;rw[hlen,Nat.mul_one]) ?_;rw[zEc,Nat.mul_one];exact List.take_of_length_le (by rw[List.length_map];show(zBD s sep).length≤_;omega)
theorem zLW {s sep:ByteArray}(hv:Vars we)(hs:s.size<4294967281)(hS:St we ρ σ w) :
 Cl Tryz.prog 277 [.string s,.string sep] w fun v w'=>v = .tuple #[.string (cutS s sep).1,.string (cutS s sep).2.1,.bool (cutS s sep).2.2]∧St we ρ σ w':=by
 obtain⟨m,hm⟩:=hv.longest;refine⟨(Any.strings_Cut zVZ s sep m w hs (zDz hS hm)).mono fun e w' ⟨h,k,hw⟩=>?_⟩;subst h hw;exact⟨rfl,hS.drew' _⟩
theorem zFV {s p:ByteArray}(hs:s.size≤1000000)(hS:St we ρ σ w) :
 Cl Tryz.prog 243 [.string s,.string p] w fun v w'=>v = .string (zC4 s p)∧St we ρ σ w':=by
 refine⟨(Any.strings_TrimSuffix zVb s p w (by omega)).mono fun e w' ⟨h,hw⟩=>?_⟩;subst h hw;exact⟨rfl,hS⟩
theorem zHo:Builder.Extra Tryz.prog zEJ where
 sizeBuilder:=by kernel_rfl
 liesBuilder:=by kernel_rfl
 t5:=Tryz.underlying5
 a5:=Tryz.isAgg5
 z5:=Tryz.sizeOf5
 v5:=Tryz.zeroValue5
 infoByte:=by kernel_rfl
 cellsByte:=by kernel_rfl
 sizeByte:=by kernel_rfl
 neB5:=by decide
theorem zKN {l:List ByteArray}{sep:ByteArray}(hl:Sl ρ strL 1 v l)(hN:l.length≤100000)(hz:(zIf l sep).size≤1000000)(hS:St we ρ σ w) :
 Cl Tryz.prog 275 [v,.string sep] w fun v w'=>v = .string (zIf l sep)∧St we ρ σ w':=by
 have hl2:=hl;obtain⟨p,cap,rfl,hle,hcm,hrow⟩:=hl.val;by_cases h0:0<l.length
 · obtain⟨b,off,cs,el,fr,rfl,hmem,-⟩:=hrow h0
   refine⟨(Any.strings_Join zKu zHo b off cap l sep w (fun j x hj=>?_) ?_ (by omega) hle ?_).mono fun e w' ⟨h,hw⟩=>?_⟩
   · obtain⟨hj1,rfl⟩:=List.getElem?_eq_some_iff.1 hj
     obtain⟨b',off',cs',el',fr',e1,e2,e3⟩:=hl2.str hj1;simp only[Option.some.injEq,Addr.mk.injEq]at e1;obtain⟨rfl,rfl,-⟩:=e1;exact zCq (hS.ro _ e2) e3
   · exact(Array.getElem?_eq_some_iff.1 (hS.ro _ hmem)).1
   · have:(zIf l sep).size=(Lib.join (l.map (·.data.toList)) sep.data.toList).length:=by simp[zIf,ByteArray.size]
     omega
   · subst h
     exact⟨rfl,hS.below_grow hw⟩
 · have hl0:l=[]:=List.eq_nil_of_length_eq_zero (by omega)
   subst hl0;refine⟨(Any.strings_Join_none zKu zHo p cap sep w).mono fun e w' ⟨h,hw⟩=>?_⟩;subst h hw;exact⟨rfl,hS⟩
end
def zGI:List ByteArray:=[⟨#[63]⟩,⟨#[101]⟩,⟨#[115]⟩,⟨#[101,101]⟩,⟨#[101,115]⟩,⟨#[115,101]⟩,⟨#[115,115]⟩,⟨#[112,115,107]⟩]
def zCP (t:Int):ByteArray:=zGI.getD (if t<1∨7<t then 0 else t.toNat) ⟨#[63]⟩
def zCj (f:Int):ByteArray:=if f=0 then⟨#[45,62]⟩ else⟨#[60,45]⟩
def zFg (f:Int)(l:List Int):ByteArray:=zCj f++⟨#[32]⟩++zIf (l.map zCP) ⟨#[44,32]⟩++⟨#[10]⟩
theorem zPj (t:Int):(zCP t).size≤3:=by
 unfold zCP;by_cases h:t<1∨7<t
 · rw[if_pos h];decide
 · have:t=1∨t=2∨t=3∨t=4∨t=5∨t=6∨t=7:=by omega
   rcases this with rfl|rfl|rfl|rfl|rfl|rfl|rfl<;>decide
theorem zP1 (l:List ByteArray)(sep:ByteArray):(zIf l sep).size≤sep.size*l.length+(l.map (·.size)).sum:=by
 have h1:(zIf l sep).size=(Lib.join (l.map (·.data.toList)) sep.data.toList).length:=by simp[zIf,ByteArray.size]
 rw[h1];cases l with
 | nil=>simp[Lib.join,List.intercalate]
 | cons a l =>
   rw[List.map_cons,Lib.join_length,List.length_map,List.length_cons,← List.map_cons (f:=fun x:ByteArray=>x.data.toList)];have h2:Lib.lens ((a::l).map fun x=>x.data.toList)=((a::l).map (·.size)).sum:=by
    clear h1;induction (a::l)with
    | nil=>rfl
    | cons b l ih=>rw[List.map_cons,List.map_cons,List.sum_cons,← ih];rfl
   rw[h2];have h3:sep.data.toList.length=sep.size:=rfl;rw[h3,Nat.mul_add,Nat.mul_one];omega
theorem zPh (l:List Int):((l.map zCP).map (·.size)).sum≤3*l.length:=by
 induction l with
 | nil=>simp
 | cons a l ih =>
   have:=zPj a;simp only[List.map_cons,List.sum_cons,List.length_cons];omega
theorem zMB (l:List Int):(zIf (l.map zCP) ⟨#[44,32]⟩).size≤5*l.length:=by
 have h1:=zP1 (l.map zCP) ⟨#[44,32]⟩;have h2:=zPh l;have h3:(⟨#[44,32]⟩:ByteArray).size=2:=rfl;rw[h3,List.length_map]at h1;omega
theorem zI3 (f:Int):(zCj f).size=2:=by unfold zCj;split<;>rfl
theorem zC1 (f:Int)(l:List Int):(zFg f l).size≤4+5*l.length:=by
 have h1:=zMB l;have h2:=zI3 f;unfold zFg;simp only[ByteArray.size_append];have h3:(⟨#[32]⟩:ByteArray).size=1:=rfl;have h4:(⟨#[10]⟩:ByteArray).size=1:=rfl;omega
section
variable {we w:World}{ρ:List (Nat × Obj)}{σ F:List HP}{v:Value}
theorem zIU (hS:St we ρ σ w):Cl Tryz.prog 264 [] w fun v w'=>v = .agg (zGI.map Value.string).toArray∧St we ρ σ w':=by
 refine Run.calls0 (n:=2) Tryz.func264 rfl rfl ?_;repeat' first|apply Qs|apply Qr|apply Qn|refine Ql ?_|(refine Qa ?_;clear hS;intro b w1 hS)|(refine Qd ?_;clear hS;intro w1 hS)
 refine Qw Tryz.func264 ?_;exact Xp
theorem zMc (hS:St we ρ σ w):Cl Tryz.prog 274 [] w fun v w'=>v = .agg #[.string (zCj 0),.string (zCj 1)]∧St we ρ σ w':=by
 refine Run.calls0 (n:=2) Tryz.func274 rfl rfl ?_;repeat' first|apply Qs|apply Qr|apply Qn|refine Ql ?_|(refine Qa ?_;clear hS;intro b w1 hS)|(refine Qd ?_;clear hS;intro w1 hS)
 refine Qw Tryz.func274 ?_;exact Xp
theorem zD6 {t:Int}(hS:St we ρ σ w):Cl Tryz.prog 234 [pI t] w fun v w'=>v = .string (zCP t)∧St we ρ σ w':=by
 have h:t<1∨7<t∨t=1∨t=2∨t=3∨t=4∨t=5∨t=6∨t=7:=by omega
 rcases h with h|h|rfl|rfl|rfl|rfl|rfl|rfl|rfl
 all_goals
  refine Run.calls1 (n:=12) Tryz.func234 rfl rfl rfl ?_;repeat' first|(refine Qv 264 (zIU hS) ?_;clear hS;intro w1 hS)|apply Qs|apply Qr|(apply Rs<;>intro hc<;>try exact No)|apply Qn|refine Ql ?_|refine Qy ?_|refine Qz ?_|refine Qt ?_|refine Qf ?_|apply Qk
 all_goals
  refine Qw Tryz.func234 ?_;refine⟨?_,hS.pk⟩;first|rfl|(unfold zCP;rw[if_pos (by omega)];rfl)
theorem zD7 {f:Int}{l:List Int}(hf:f=0∨f=1)(hl:Sl ρ intL 1 v l)(hn:l.length≤12)(hS:St we ρ σ w) :
 Cl Tryz.prog 242 [pI f,v] w fun v w'=>v = .string (zFg f l)∧St we ρ σ w':=by
 obtain⟨p1,c1,rfl,k1,k2,_⟩:=hl.val;unfold maxLen at k2;refine Run.calls2 (n:=28) Tryz.func242 rfl rfl rfl ?_;repeat' first|apply Qs|apply Qr|apply Qn|refine Ql ?_|apply Qb
 refine Run.while (fun x:Nat × Value=>[(0,pI f),(8,.slice p1 l.length c1),(9,pI l.length),(10,pI x.1),(5,x.2)])
  (fun x w=>x.1≤l.length∧St we ρ (Vec 9 1 x.2 x.1 (((l.take x.1).map zCP).flatMap strL) :: σ) w) (fun x=>l.length - x.1) (0,.slice none 0 0) ⟨by simp,zAh hS.pk⟩ (by exact Sb) ?_
 clear hS;rintro⟨i,ov⟩ w ⟨hi,hS⟩ ih;simp only at hi hS ih ⊢;by_cases hlt:i<l.length
 · obtain⟨b0,o0,cs0,e0,f0,rfl,m0,h0⟩:=hl.int hlt
   have hd:l.take (i+1)=l.take i++[l[i]]:=List.take_succ_eq_append_getElem hlt;generalize l[i]=y at hd h0;replace ih:=fun v w h=>ih (i+1,v) w h (by simp;omega)
   simp only[hd,List.map_append,List.flatMap_append]at ih;generalize ((l.take i).map zCP).flatMap strL=xs at hS ih;repeat' first|(refine Ql ?_ (h:=by apply Still.load;rfl;rfl;exact Rd.ro m0;exact h0))|(refine Qv 234 (zD6 hS) ?_;clear hS;intro w1 hS)|(apply RO.op;apply OP.append (size:=1) (bytes:=16) (k:=1) (news:=[.string (zCP y)]) hS;rfl;rfl;rfl;rfl;rfl;rfl;rfl;rfl;exact(by omega);exact An;(exact Rd.any);rfl;rfl;exact(by intro v hv;simp at hv;subst hv;rfl);(exact(by unfold maxLen;omega));(exact(by omega));rfl;clear hS;intro v2 w1 hS)|apply Qs|apply Qr|(apply Rs<;>intro hc<;>try exact No)|apply Qn|refine Ql ?_|(refine Qg ?_;clear hS;intro b w1 hS)|refine Qt ?_|apply Qk|apply Qb|apply Qi
   exact Run.weaken (e':=[(0,pI f),(8,.slice (some ⟨b0,o0,none⟩) l.length c1),(9,pI l.length),(10,pI ((i+1:Nat):Int)),(5,v2)]) (by exact Sb) (ih v2 _ ⟨by omega,hS.pk⟩)
 · obtain rfl:i=l.length:=by omega
   rw[List.take_length]at hS;have hS1:St we ρ (Vec 9 1 ov (l.map zCP).length ((l.map zCP).flatMap strL) :: σ) w:=by rw[List.length_map];exact hS
   clear hS ih;obtain⟨ρ2,o2,s2,hS⟩:=zAH zBU hS1;clear hS1;have hjz:=zMB l;have kJ:∀{σ:List HP} {w:World},St we ρ2 σ w→_:=fun hS=>zKN (sep:=⟨#[44,32]⟩) s2 (by rw[List.length_map];omega) (by omega) hS
   unfold zFg;generalize zIf (l.map zCP) ⟨#[44,32]⟩=js at kJ hjz;obtain⟨oq,oc,rfl,-⟩:=s2.val;have z1:(⟨#[32]⟩:ByteArray).size=1:=rfl;have z2:(⟨#[10]⟩:ByteArray).size=1:=rfl;have z3:=zI3 f;obtain⟨aw,haw⟩:∃aw,aw=zCj f:=⟨_,rfl⟩
   rw[← haw]at z3 ⊢;rcases hf with rfl|rfl
   all_goals
    repeat' first|apply Qs|apply Qr|(apply Rs<;>intro hc<;>try exact No)|apply Qn|refine Ql ?_|refine Qf ?_|refine Qe ?_
    refine(Run.regionH_cut (fun _:Unit => σ) (fun _=>[(4,.string (aw++⟨#[32]⟩++js++⟨#[10]⟩))]) hS (List.Sublist.refl _) (by rfl) (by rfl) (by rfl) ?_ ?_)
    · clear hS
      intro w1 hS;subst haw;refine RH.relist (listed':=bm 9 0) (by kernel_rfl) ?_;repeat' first|(apply Rh<;>intro hc<;>try exact No)|refine Yt 0 1 ?_|refine Yt 2 4 ?_|refine Yt 19 2 ?_|(refine Yt 23 3 ?_ (h:=by apply Still.addS;rfl;rfl;(first|omega|(simp only[ByteArray.size_append];omega)|(simp only[ByteArray.size_append]at *;omega))))|(refine Yt 63 6 ?_ (h:=by apply Still.addS;rfl;rfl;(first|omega|(simp only[ByteArray.size_append];omega)|(simp only[ByteArray.size_append]at *;omega))))|(refine Yt 127 7 ?_ (h:=by apply Still.addS;rfl;rfl;(first|omega|(simp only[ByteArray.size_append];omega)|(simp only[ByteArray.size_append]at *;omega))))|refine Yt 255 8 ?_|(refine Ov 274 (zMc hS) ?_;clear hS;intro w1 hS;refine Xh ?_)|(refine Ov 275 (kJ hS) ?_;clear hS;intro w1 hS;refine Xh ?_)|refine Jo ?_|refine Za 18 0 ?_|refine Za 31 5 ?_|(refine Yd 511 ?_;exact⟨(),Sb,hS.pk⟩)
    clear hS;rintro - w1 hS;refine Qw Tryz.func242 ?_;exact⟨rfl,o2.back hS⟩
end
def preW (p:Pat):ByteArray :=
 if 0<p.pre1.length then(if 0<p.pre0.length then⟨#[]⟩++zFg 0 p.pre0 else⟨#[]⟩)++zFg 1 p.pre1 else if 0<p.pre0.length then⟨#[]⟩++zFg 0 p.pre0 else⟨#[]⟩
def zG4 (p:Pat):ByteArray:=p.name++⟨#[58,10]⟩++(if preW p=⟨#[]⟩then preW p else preW p++⟨#[46,46,46,10]⟩)
def zHe (out:ByteArray)(l:List Msg):ByteArray:=l.foldl (fun o m=>o++zFg m.who m.t) out
def zEi (p:Pat):ByteArray:=zHe (zG4 p) p.msgs
theorem zOK {l:List Int}(h:zI6 l=true):l.length≤2:=by
 unfold zI6 at h;simp only[Bool.or_eq_true,decide_eq_true_eq]at h;rcases h with ((rfl|rfl)|rfl)|rfl<;>decide
theorem zCN {p:Pat}(h:zBS p=true):p.pre0.length≤2∧p.pre1.length≤2:=by
 unfold zBS at h;simp only[Bool.and_eq_true]at h;exact⟨zOK h.1.1.1.1.2,zOK h.1.1.1.2⟩
theorem zGv:∀(l:List Msg) (out:ByteArray),(∀m∈l,m.t.length≤12)→(zHe out l).size≤out.size+64*l.length
 | [],out,_=>by simp[zHe]
 | m::l,out,h=>by
   have h1:=zGv l (out++zFg m.who m.t) (fun x hx=>h x (List.mem_cons_of_mem _ hx));have h2:=zC1 m.who m.t;have h3:=h m (List.mem_cons_self ..);unfold zHe at h1 ⊢;rw[List.foldl_cons,List.length_cons];rw[ByteArray.size_append]at h1;omega
theorem zLq {p:Pat}(h0:p.pre0.length≤2)(h1:p.pre1.length≤2):(preW p).size≤40:=by
 have a0:=zC1 0 p.pre0;have a1:=zC1 1 p.pre1;have e0:(⟨#[]⟩:ByteArray).size=0:=rfl;unfold preW;split
 · split<;>(simp only[ByteArray.size_append];omega)
 · split
   · simp only[ByteArray.size_append];omega
   · omega
theorem zJw {p:Pat}(h:p.name.size≤20)(h0:p.pre0.length≤2)(h1:p.pre1.length≤2):(zG4 p).size≤70:=by
 have a:=zLq h0 h1;have e1:(⟨#[58,10]⟩:ByteArray).size=2:=rfl;have e2:(⟨#[46,46,46,10]⟩:ByteArray).size=4:=rfl;unfold zG4;split<;>(simp only[ByteArray.size_append];omega)
section
variable {we w:World}{ρ:List (Nat × Obj)}{σ F:List HP}{v:Value}
theorem zIL {p:Pat}(hr:zBS p=true)(hv:PatR ρ v p)(hS:St we ρ σ w) :
 Cl Tryz.prog 191 [v] w fun v w'=>v = .tuple #[.string (zEi p),pI 0]∧St we ρ σ w':=by
 obtain⟨p1,p2,p3,p4,p5,p6,p7⟩:=zAs hr;obtain⟨ht0,ht1⟩:=zCN hr;have kR:∀{σ:List HP} {w:World},St we ρ σ w→_:=fun hS=>zCD (by omega) hv hS
 rw[hr]at kR;obtain⟨hl0,hl1,hlm,hmr⟩:=hv;rename_i v0 v1 vm ms;have hlen:=hmr.length;obtain⟨q0,c0,rfl,-⟩:=hl0.val;obtain⟨q1,c1,rfl,-⟩:=hl1.val;obtain⟨qm,cm,rfl,k5,k6,-⟩:=hlm.val;unfold maxLen at k6;have k0:∀{σ:List HP} {w:World},St we ρ σ w→_:=fun hS=>zD7 (f:=0) (.inl rfl) hl0 (by omega) hS
 have k1:∀{σ:List HP} {w:World},St we ρ σ w→_:=fun hS=>zD7 (f:=1) (.inr rfl) hl1 (by omega) hS
 have z0:=zC1 0 p.pre0;have z1:=zC1 1 p.pre1;have zp:=zLq ht0 ht1;have zh:=zJw (by omega) ht0 ht1;have y0:(⟨#[]⟩:ByteArray).size=0:=rfl;have y1:(⟨#[58,10]⟩:ByteArray).size=2:=rfl;have y2:(⟨#[46,46,46,10]⟩:ByteArray).size=4:=rfl;refine Run.calls1 (n:=53) Tryz.func191 rfl rfl rfl ?_;repeat' first|(refine Qv 235 (kR hS) ?_;clear hS;intro w1 hS)|apply Qs|apply Qr|apply Qn|(refine Qx ?_;clear hS;intro b w1 hS)|refine Ql ?_|refine Qf ?_|apply Qk
 obtain⟨b1,hb1⟩:∃x,x=b:=⟨_,rfl⟩
 subst hb1;refine Run.midP (α:=Unit) (fun _ w=>St we ρ (Row b1 [.string p.name,.slice q0 p.pre0.length c0,.slice q1 p.pre1.length c1,.slice qm ms.length cm] 84 :: σ) w)
  (fun _=>[(1,pP b1),(4,.string (preW p))]) ?_ ?_
 rotate_left
 · intro hpost
   obtain⟨s,hs⟩:∃s,preW p=s:=⟨_,rfl⟩
   rw[hs]at hpost;unfold preW at hs;by_cases h0:0<p.pre0.length<;>by_cases h1:0<p.pre1.length;all_goals
    simp only[h0,h1,if_true,if_false]at hs;subst hs;repeat' first|(refine Qv 242 (k0 hS) ?_;clear hS;intro w1 hS)|(refine Qv 242 (k1 hS) ?_;clear hS;intro w1 hS)|refine Run.loop ?_|refine Run.inLoop ?_|(refine Ql ?_ (h:=by apply Still.addS;rfl;rfl;(first|omega|(simp only[ByteArray.size_append];omega)|(simp only[ByteArray.size_append]at *;omega))))|apply Qs|apply Qr|(apply Rs<;>intro hc<;>try exact No)|apply Qn|refine Ql ?_|refine Qt ?_|refine Qf ?_|apply Qk|apply Qb|apply Qi
    refine Qe ?_;exact Run.weaken (by exact Sb) (hpost () _ hS.pk)
 · clear hS kR k0 k1
   rintro - w hS;obtain⟨ps,hps⟩:∃s,preW p=s:=⟨_,rfl⟩
   have hhd:zG4 p=p.name++⟨#[58,10]⟩++(if ps=⟨#[]⟩then ps else ps++⟨#[46,46,46,10]⟩):=by unfold zG4;rw[hps]
   rw[hps]at zp ⊢;repeat' first|apply Qs|apply Qr|apply Qn|refine Ql ?_
   refine Run.midP (α:=Unit) (fun _ w=>St we ρ (Row b1 [.string p.name,.slice q0 p.pre0.length c0,.slice q1 p.pre1.length c1,.slice qm ms.length cm] 84 :: σ) w)
    (fun _=>[(1,pP b1),(4,.string (if ps=⟨#[]⟩then ps else ps++⟨#[46,46,46,10]⟩))]) ?_ ?_
   rotate_left
   · intro hpost
     by_cases hpe:ps=⟨#[]⟩
     · rw[if_pos hpe]at hpost
       rw[decide_eq_true hpe];refine Qf ?_;apply Qk;exact Run.weaken (by exact Sb) (hpost () _ hS)
     · rw[if_neg hpe]at hpost
       rw[decide_eq_false hpe];refine Qt ?_;apply Qr;repeat' first|(refine Ql ?_ (h:=by apply Still.addS;rfl;rfl;(first|omega|(simp only[ByteArray.size_append];omega)|(simp only[ByteArray.size_append]at *;omega))))|refine Ql ?_
       apply Qn;exact Run.weaken (by exact Sb) (hpost () _ hS)
   · clear hS
     rintro - w hS;generalize (if ps=⟨#[]⟩then ps else ps++⟨#[46,46,46,10]⟩)=hd at hhd;have zd:hd.size≤70:=by rw[hhd]at zh;simp only[ByteArray.size_append]at zh;omega
     repeat' first|(refine Ql ?_ (h:=by apply Still.addS;rfl;rfl;(first|omega|(simp only[ByteArray.size_append];omega)|(simp only[ByteArray.size_append]at *;omega))))|apply Qb|apply Qs|apply Qr|apply Qn|refine Ql ?_
     rw[← hhd];unfold zEi;refine Run.while (fun x:Nat=>[(1,pP b1),(38,.slice qm ms.length cm),(39,pI ms.length),(40,pI x),(7,.string (zHe (zG4 p) (p.msgs.take x)))])
      (fun x w=>x≤ms.length∧St we ρ σ w) (fun x=>ms.length - x) 0 ⟨by omega,hS.pk⟩ (by exact Sb) ?_
     clear hS;rintro i w ⟨hi,hS⟩ ih;by_cases hlt:i<ms.length
     · obtain⟨mb,off,cs,el,fr,m,tv,rfl,hmem,g1,g2,g3,g4,g5⟩:=zEm hlm hmr hlt
       have hmm:=p5 m (List.mem_of_getElem? g4);obtain⟨qt,ct,rfl,-⟩:=g5.val;have kL:∀{σ:List HP} {w:World},St we ρ σ w→_:=fun hS=>zD7 (f:=m.who) hmm.1 g5 hmm.2.2.1 hS
       have hput:zHe (zG4 p) (p.msgs.take (i+1))=zHe (zG4 p) (p.msgs.take i)++zFg m.who m.t:=by
        have h2:i<p.msgs.length:=by omega
        unfold zHe;rw[zDw _ _ _ h2,(List.getElem?_eq_some_iff.1 g4).2]
       have zo:=zGv (p.msgs.take i) (zG4 p) (fun x hx=>(p5 x (List.mem_of_mem_take hx)).2.2.1);have zl:=zC1 m.who m.t;have hkl:(p.msgs.take i).length≤6:=by rw[List.length_take];omega
       replace ih:=fun w h=>ih (i+1) w ⟨by omega,h⟩ (by omega)
       rw[hput]at ih;generalize zHe (zG4 p) (p.msgs.take i)=out at ih zo;generalize zFg m.who m.t=lw at ih zl kL;repeat' first|(refine Ql ?_ (h:=by apply Still.loadAgg;rfl;rfl;rfl;exact Rd.ro hmem;exact g3;rfl))|(refine Qv 242 (kL hS) ?_;clear hS;intro w1 hS)|(refine Ql ?_ (h:=by apply Still.addS;rfl;rfl;(first|omega|(simp only[ByteArray.size_append];omega)|(simp only[ByteArray.size_append]at *;omega))))|apply Qs|apply Qr|(apply Rs<;>intro hc<;>try exact No)|apply Qn|refine Ql ?_|(refine Qa ?_;clear hS;intro b w1 hS)|(refine Qd ?_;clear hS;intro w1 hS)|refine Qt ?_|apply Qk|apply Qb|apply Qi
       exact Run.weaken (by exact Sb) (ih _ hS.pk)
     · obtain rfl:i=ms.length:=by omega
       rw[hlen,List.take_length];repeat' first|apply Qs|apply Qr|(apply Rs<;>intro hc<;>try exact No)|apply Qn|refine Ql ?_|refine Qf ?_|refine Qe ?_
       refine Qw Tryz.func191 ?_;exact Xp
end
section
variable {P:Program}{n:Nat}{e:Env}{ty t:TypeId}{x y:Operand}{S:World→Prop}
theorem Still.sliceArr {el:TypeId}{b off len m:Nat}(hx:ev e x=some (.pointer (some ⟨b,off,none⟩)))(ht:P.underlying t=some (.array len el))(hs:zDm P el=some m) :
 Still P n e S (.slice t x none none none) ty (.slice (some ⟨b,off,none⟩) len len):=Still.mk fun a w ha _ d pos aft g=>by
 simp only[execOp,ha.ev hx,Option.map_none,Instr.sliceAt,Sem.run_bind,run_underlying ht,Result.andThen_ok,Instr.sureAddr,Instr.sliceBounds,Sem.run_pure,zBZ hs];simp[Addr.add_lit]
end
theorem zQy {α:Type}{g : α→List Value}{ρ:List (Nat × Obj)}{b off cap:Nat}{a : α}{l:List α}{size:Nat}(h:Sl ρ g size (.slice (some ⟨b,off,none⟩) (l.length+1) cap) (a::l)) :
 Sl ρ g size (.slice (some ⟨b,off+size,none⟩) l.length (cap - 1)) l:=by
 obtain⟨p,c,e1,h1,h2,h3⟩:=h.val;simp only[Value.slice.injEq,List.length_cons]at e1 h1 h3;obtain⟨rfl,-,rfl⟩:=e1;obtain⟨b',off',cs,el,fr,e2,e3,e4⟩:=h3 (by omega);simp only[Option.some.injEq,Addr.mk.injEq]at e2;obtain⟨rfl,rfl,-⟩:=e2;refine⟨⟨_,_,rfl,by omega,by omega,fun _=>⟨b,off+size,cs,el,fr,rfl,e3,fun i hi=>?_⟩⟩⟩;have:=e4 (i+1) (by omega);rw[Nat.add_mul,Nat.one_mul,show off+(i*size+size)=off+size+i*size by omega]at this;exact this
def zLO (l:List ByteArray):List Int:=l.map fun w=>zAQ (fun y=>decide (w=y)) zGI 0
def zCM (s:ByteArray):Int:=zAQ (fun y=>decide ((cutS s ⟨#[32]⟩).1=y)) [⟨#[45,62]⟩,⟨#[60,45]⟩] 0
def zEF (s:ByteArray):List Int:=zLO (zBD (cutS s ⟨#[32]⟩).2.1 ⟨#[44,32]⟩)
def zGC (s:ByteArray):Bool:=decide (0≤zCM s) && !(zEF s).any fun t=>decide (t<1)
section
variable {we w:World}{ρ:List (Nat × Obj)}{σ F:List HP}{v:Value}
theorem zOl {x:ByteArray}{l:List ByteArray}{p1:Option Addr}{c1:Nat}(hn:l.length≤100000)
 (hr:∀(i:Nat) (hi:i<l.length),∃b o cs el fr,p1=some ⟨b,o,none⟩∧Rd ρ σ b (.cells (List.toArray cs) el fr)∧cs[o+i]? = some (.string l[i])) (hS:St we ρ σ w) :
 Cl Tryz.prog 182 [.slice p1 l.length c1,.string x] w fun u w'=>u = pI (zAQ (fun y=>decide (x=y)) l 0)∧St we ρ σ w':=by
 refine Run.calls2 (n:=19) Tryz.func182 rfl rfl rfl ?_;repeat' first|apply Qs|apply Qr|apply Qn|refine Ql ?_|apply Qb
 refine Run.while (fun i:Nat=>[(0,.slice p1 l.length c1),(1,.string x),(7,pI l.length),(8,pI i)])
  (fun i w=>i≤l.length∧zAQ (fun y=>decide (x=y)) l 0=zAQ (fun y=>decide (x=y)) (l.drop i) i∧St we ρ σ w) (fun i=>l.length - i) 0 ⟨by omega,by simp,hS⟩ (by exact Sb) ?_
 clear hS;rintro i w ⟨hi,hfirst,hS⟩ ih;by_cases hlt:i<l.length
 · obtain⟨b0,o0,cs0,e0,f0,rfl,m0,h0⟩:=hr i hlt
   have hd:l.drop i=l[i]::l.drop (i+1):=List.drop_eq_getElem_cons hlt;generalize l[i]=y at hd h0;repeat' first|(refine Ql ?_ (h:=by apply Still.load;rfl;rfl;exact m0;exact h0))|apply Qs|apply Qr|(apply Rs<;>intro hc<;>try exact No)|apply Qn|refine Ql ?_|refine Qt ?_|refine Qf ?_|apply Qk|apply Qb|apply Qi
   · have hxy:x=y:=by assumption
     refine Qw Tryz.func182 ?_;exact⟨by rw[hfirst,hd];simp[zAQ,hxy,tup],hS⟩
   · have hxy:¬x=y:=by assumption
     refine Run.weaken (e':=[_,_,_,(8,pI ((i+1:Nat):Int))]) (by exact Sb) (ih (i+1) _ ⟨by omega,?_,hS⟩ (by omega));rw[hfirst,hd];simp[zAQ,hxy]
 · obtain rfl:i=l.length:=by omega
   repeat' first|apply Qs|apply Qr|(apply Rs<;>intro hc<;>try exact No)|apply Qn|refine Ql ?_|refine Qf ?_|refine Qe ?_
   refine Qw Tryz.func182 ?_;exact⟨by rw[hfirst];simp[zAQ,tup],hS⟩
theorem zME {x:ByteArray}{l:List ByteArray}{b cap:Nat}{el:TypeId}{fr:Nat × Nat}(hn:l.length≤100000)(hr:Rd ρ σ b (.cells (l.map Value.string).toArray el fr))(hS:St we ρ σ w) :
 Cl Tryz.prog 182 [.slice (some ⟨b,0,none⟩) l.length cap,.string x] w fun u w'=>u = pI (zAQ (fun y=>decide (x=y)) l 0)∧St we ρ σ w' :=
 zOl hn (fun i hi=>⟨b,0,_,el,fr,rfl,hr,by simp[hi]⟩) hS
theorem zJv {x:ByteArray}{l:List ByteArray}(hl:Sl ρ strL 1 v l)(hn:l.length≤100000)(hS:St we ρ σ w) :
 Cl Tryz.prog 182 [v,.string x] w fun u w'=>u = pI (zAQ (fun y=>decide (x=y)) l 0)∧St we ρ σ w':=by
 obtain⟨p1,c1,rfl,k1,k2,_⟩:=hl.val;exact zOl hn (fun i hi=>by obtain⟨b0,o0,cs0,e0,f0,h1,m0,h0⟩:=hl.str hi;exact⟨b0,o0,cs0,e0,f0,h1,Rd.ro m0,h0⟩) hS
theorem zK6 {x:ByteArray}{l:List ByteArray}(hl:Sl ρ strL 1 v l)(hn:l.length≤100000)(hS:St we ρ σ w) :
 Cl Tryz.prog 244 [v,.string x] w fun u w'=>u = .bool (decide (0≤zAQ (fun y=>decide (x=y)) l 0))∧St we ρ σ w':=by
 refine Run.calls2 (n:=9) Tryz.func244 rfl rfl rfl ?_;repeat' first|(refine Qv 182 (zJv hl hn hS) ?_;clear hS;intro w1 hS)|apply Qs|apply Qr|(apply Rs<;>intro hc<;>try exact No)|apply Qn|refine Ql ?_
 all_goals
  refine Qw Tryz.func244 ?_;exact⟨by simp_all [tup],hS⟩
theorem zSZ (s sep:ByteArray):(cutS s sep).2.1.size≤s.size:=by
 unfold cutS Lib.cut;split
 · show(s.data.toList.drop _).toArray.size≤s.data.size
   simp
 · exact Nat.zero_le _
theorem zNB {x:Int}(hS:St we ρ σ w):Cl Tryz.prog 278 [pI x] w fun v w'=>v = .bool (decide (x<1))∧St we ρ σ w':=by
 refine Run.calls1 (n:=5) Tryz.func278 rfl rfl rfl ?_;repeat' first|apply Qs|apply Qr|(apply Rs<;>intro hc<;>try exact No)|apply Qn|refine Ql ?_
 all_goals
  refine Qw Tryz.func278 ?_;exact⟨by simp_all [tup],hS⟩
theorem zRH {s:ByteArray}(hv:Vars we)(hs:s.size≤100000)(hS:St we ρ σ w) :
 Cl Tryz.prog 245 [.string s] w fun v w'=>∃tv ρ',v = .tuple #[.agg #[pI (zCM s),tv],.bool (zGC s)]∧Over we ρ ρ'∧Sl ρ' intL 1 tv (zEF s)∧St we ρ' σ w':=by
 have kC:∀{σ:List HP} {w:World},St we ρ σ w→_:=fun hS=>zLW (s:=s) (sep:=⟨#[32]⟩) hv (by omega) hS
 unfold zGC zEF zCM;have hcz:=zSZ s ⟨#[32]⟩;generalize cutS s ⟨#[32]⟩=cc at kC hcz;obtain⟨arrow,rest,ok⟩:=cc;simp only at kC hcz ⊢;have kS:∀{σ:List HP} {w:World},St we ρ σ w→_:=fun hS=>zB1 (s:=rest) (sep:=⟨#[44,32]⟩) hv (by omega) (by decide) hS
 have hwl:(zBD rest ⟨#[44,32]⟩).length≤100001:=by
  have h1:(zBD rest ⟨#[44,32]⟩).length=Lib.countB rest ⟨#[44,32]⟩+1:=Lib.splitB_all _ (by decide) 0 _ rest rfl;have h2:=Lib.countB_le ⟨#[44,32]⟩ (by decide) rest.size rest (Nat.le_refl _);omega
 generalize zBD rest ⟨#[44,32]⟩=ws at kS hwl;obtain⟨fr,hfr⟩:∃x,zAQ (fun y=>decide (arrow=y)) [⟨#[45,62]⟩,⟨#[60,45]⟩] 0=x:=⟨_,rfl⟩
 rw[hfr];refine Run.calls1 (n:=48) Tryz.func245 rfl rfl rfl ?_;repeat' first|(refine Qv 277 (kC hS) ?_;clear hS;intro w1 hS)|(refine Qv 182 (zME (l:=[⟨#[45,62]⟩,⟨#[60,45]⟩]) (by decide) (by exact Rd.any) hS) ?_;clear hS;intro w1 hS;rw[hfr])|(refine Qc 34 (c:=kS hS) (k':=?_);clear hS;rintro v w1 hS;obtain⟨ρ2,o2,s2,hT⟩:=zAH zBU hS;clear hS;have hS:=hT;clear hT;obtain⟨wq,wc,rfl,k1,k2,-⟩:=s2.val)|apply Qs|apply Qr|apply Qn|refine Ql ?_|(refine Qa ?_;clear hS;intro b w1 hS)|(refine Qd ?_;clear hS;intro w1 hS)|(refine Qg ?_;clear hS;intro b w1 hS)|apply Qb
 rename_i b2 w9 w8 b3 w7 w6 w5 w4;obtain⟨b7,hb7⟩:∃x,x=b:=⟨_,rfl⟩
 subst hb7;have hS2:St we ρ2 (Vec 3 1 (.slice none 0 0) 0 []::Row b7 [pI fr,.slice none 0 0] 137::Row b2 [pI 0,.slice none 0 0] 137 :: σ) _:=zAh hS.pk;clear hS;refine Run.while (fun x:Nat × Value=>[(22,.slice wq ws.length wc),(23,pI ws.length),(24,pI x.1),(7,pP b7),(2,pP b2)])
  (fun x w=>x.1≤ws.length∧St we ρ2 (Vec 3 1 x.2 x.1 ((zLO (ws.take x.1)).flatMap intL)::Row b7 [pI fr,x.2] 137::Row b2 [pI 0,.slice none 0 0] 137 :: σ) w) (fun x=>ws.length - x.1) (0,.slice none 0 0) ⟨by simp,hS2⟩ (by exact Sb) ?_
 clear hS2;rintro⟨i,tv⟩ w ⟨hi,hS⟩ ih;simp only at hi hS ih ⊢;by_cases hlt:i<ws.length
 · obtain⟨b0,o0,cs0,e0,f0,rfl,m0,h0⟩:=s2.str hlt
   have hd:ws.take (i+1)=ws.take i++[ws[i]]:=List.take_succ_eq_append_getElem hlt;generalize ws[i]=y at hd h0;replace ih:=fun v w h=>ih (i+1,v) w h (by simp;omega)
   obtain⟨z,hz⟩:∃z,zAQ (fun u=>decide (y=u)) zGI 0=z:=⟨_,rfl⟩
   simp only[hd,zLO,List.map_append,List.flatMap_append,List.map_cons,List.map_nil,List.flatMap_cons,List.flatMap_nil,hz]at ih;unfold zLO at hS;generalize (((ws.take i).map fun w=>zAQ (fun y=>decide (w=y)) zGI 0).flatMap intL)=xs at hS ih;obtain⟨tq,tc,rfl⟩:=zAG hS;repeat' first|(refine Ql ?_ (h:=by apply Still.load;rfl;rfl;exact Rd.ro m0;exact h0))|(refine Qv 264 (zIU hS) ?_;clear hS;intro w1 hS)|apply Qs|apply Qr|(apply Rs<;>intro hc<;>try exact No)|apply Qn|refine Ql ?_|(refine Qa ?_;clear hS;intro b w1 hS)|(refine Qd ?_;clear hS;intro w1 hS)|refine Qt ?_|apply Qk|apply Qb
   obtain⟨b10,hb10⟩:∃x,x=b:=⟨_,rfl⟩
   subst hb10;have hS2:St we ρ2 (Row b10 (zGI.map Value.string) 375::Vec 3 1 (.slice tq i tc) i xs::Row b7 [pI fr,.slice tq i tc] 137::Row b2 [pI 0,.slice none 0 0] 137 :: σ) _:=hS.pk;clear hS;have hS:=hS2;clear hS2;have kI:∀{σ:List HP} {w:World},Rd ρ2 σ b10 (.cells (zGI.map Value.string).toArray 375 (0,0))→St we ρ2 σ w→Cl Tryz.prog 182 [.slice (some ⟨b10,0,none⟩) 8 8,.string y] w fun u w'=>u = pI z∧St we ρ2 σ w':=fun hr hS=>by
    have:=zME (x:=y) (l:=zGI) (cap:=8) (by decide) hr hS;rwa [hz]at this
   refine(Run.regionH_cut (fun a:Option Addr × Nat=>Vec 3 1 (.slice a.1 (i+1) a.2) (i+1) (xs++[pI z])::Row b7 [pI fr,.slice a.1 (i+1) a.2] 137::Row b2 [pI 0,.slice none 0 0] 137 :: σ)
    (fun _=>[(22,.slice (some ⟨b0,o0,none⟩) ws.length wc),(23,pI ws.length),(24,pI i),(7,pP b7),(2,pP b2)])
    hS (.cons_cons _ (.cons _ (.cons _ (List.Sublist.refl _)))) (by rfl) (by rfl) (by rfl) ?_ ?_)
   · clear hS
     intro w1 hS;refine RH.relist (listed':=bm 9 0) (by kernel_rfl) ?_;repeat' first|refine Yl 0 0 ?_|(refine Yt 1 2 ?_ (h:=by first|(apply Still.sliceArr;rfl;rfl;rfl)|exact Still.any))|refine Yt 5 3 ?_|refine Yl 127 7 ?_|(refine Ol (Xh ?_) (h:=by first|(apply Still.sliceArr;rfl;rfl;rfl)|exact Still.an))|(refine Ov 182 (kI (by exact Rd.any) hS) ?_;clear hS;intro w1 hS;refine Xh ?_)|(refine Og ?_;clear hS;intro b w1 hS;refine Xh ?_)|(apply OP.append (size:=1) (bytes:=8) (k:=1) (news:=[pI z]) hS;rfl;rfl;rfl;rfl;rfl;rfl;rfl;rfl;exact(by omega);exact An;(exact Rd.any);rfl;rfl;exact(by intro v hv;simp at hv;subst hv;rfl);(exact(by unfold maxLen;omega));(exact(by omega));rfl;clear hS;intro v2 w1 hS;obtain⟨pk2,capk2,rfl⟩:=zAG hS;refine Xh ?_)|(refine Od ?_;clear hS;intro w1 hS;refine Xh ?_)|refine Jo ?_|refine Zb 13 1 4 ?_ ?_|refine Za 15 4 ?_|refine Za 31 5 ?_|refine Za 63 6 ?_|refine Za 255 8 ?_|refine Zb 29 1 5 ?_ ?_|refine Za 61 1 ?_|(refine Yd 511 ?_;exact⟨(pk2,capk2),(by exact Sb),hS.pk⟩)
   clear hS;rintro⟨nq,nc⟩ w1 hS;simp only at hS;repeat' first|apply Qr|apply Qn|refine Ql ?_|apply Qi
   exact Run.weaken (e':=[(22,.slice (some ⟨b0,o0,none⟩) ws.length wc),(23,pI ws.length),(24,pI ((i+1:Nat):Int)),(7,pP b7),(2,pP b2)]) (by exact Sb) (ih (.slice nq (i+1) nc) _ ⟨by omega,hS.pk⟩)
 · obtain rfl:i=ws.length:=by omega
   rw[List.take_length]at hS;obtain⟨tq,tc,rfl⟩:=zAG hS;have hlen:(zLO ws).length=ws.length:=by simp[zLO]
   generalize zLO ws=ts at hS hlen;rw[← hlen]at hS;obtain⟨ρ3,o3,s3,hT⟩:=zAH zAZ hS;clear hS;have hS:=hT;clear hT;have kF:∀{σ:List HP} {w:World},St we ρ3 σ w→_:=fun hS=>zCI (g:=278) (cs:=[]) (fun t=>decide (t<1)) s3 rfl (fun x w hS=>zNB hS) hS
   generalize (ts.any fun t=>decide (t<1))=ab at kF;by_cases h0:0≤fr
   · rw[decide_eq_true h0,Bool.true_and]
     repeat' first|apply Qs|apply Qr|(apply Rs<;>intro hc<;>try exact No)|apply Qn|refine Ql ?_|refine Qf ?_|refine Qe ?_
     refine(Run.regionH_cut (fun _:Unit=>Row b2 [pI fr,.slice tq ts.length tc] 137::Row b7 [pI fr,.slice tq ts.length tc] 137 :: σ)
      (fun _=>[(2,pP b2),(3,.bool !ab)])
      hS (.cons_cons _ (.cons _ (List.Sublist.refl _))) (by rfl) (by rfl) (by rfl) ?_ ?_)
     · clear hS
       intro w1 hS;refine RH.relist (listed':=bm 12 0) (by kernel_rfl) ?_;repeat' first|(apply Rh<;>intro hc<;>try exact No)|refine Yl 0 0 ?_|refine Yl 1 1 ?_|refine Yl 3 2 ?_|refine Yt 7 3 ?_|refine Yt 15 4 ?_|refine Yz 31 5 ?_|refine Yn 31 5 ?_|refine Yu 31 5 ?_|refine Yz 63 6 ?_|refine Yn 63 6 ?_|refine Yu 63 6 ?_|refine Yy 255 8 ?_|refine Yn 255 8 ?_|refine Yu 255 8 ?_|refine Yt 511 9 ?_|refine Yt 2047 11 ?_|(refine Ov 38 (kF hS) ?_;clear hS;intro w1 hS;refine Xh ?_)|(refine Od ?_;clear hS;intro w1 hS;refine Xh ?_)|refine Jn ?_|refine Ju ?_|refine Jy ?_|refine Jo ?_|refine Za 127 7 ?_|refine Za 1023 10 ?_|(refine Yd 4095 ?_;exact⟨(),Sb,hS.pk⟩)
     clear hS;rintro - w1 hS;refine Qw Tryz.func245 ?_;exact⟨_,ρ3,rfl,o2.trans o3,s3,hS.pk⟩
   · rw[decide_eq_false h0,Bool.false_and]
     repeat' first|apply Qs|apply Qr|(apply Rs<;>intro hc<;>try exact No)|apply Qn|refine Ql ?_|refine Qf ?_|refine Qe ?_
     refine(Run.regionH_cut (fun _:Unit=>Row b2 [pI fr,.slice tq ts.length tc] 137::Row b7 [pI fr,.slice tq ts.length tc] 137 :: σ)
      (fun _=>[(2,pP b2),(3,.bool false)])
      hS (.cons_cons _ (.cons _ (List.Sublist.refl _))) (by rfl) (by rfl) (by rfl) ?_ ?_)
     · clear hS
       intro w1 hS;refine RH.relist (listed':=bm 12 0) (by kernel_rfl) ?_;repeat' first|(apply Rh<;>intro hc<;>try exact No)|refine Yl 0 0 ?_|refine Yl 1 1 ?_|refine Yl 3 2 ?_|refine Yt 7 3 ?_|refine Yt 15 4 ?_|refine Yz 31 5 ?_|refine Yn 31 5 ?_|refine Yu 31 5 ?_|refine Yz 63 6 ?_|refine Yn 63 6 ?_|refine Yu 63 6 ?_|refine Yy 255 8 ?_|refine Yn 255 8 ?_|refine Yu 255 8 ?_|refine Yt 511 9 ?_|refine Yt 2047 11 ?_|(refine Od ?_;clear hS;intro w1 hS;refine Xh ?_)|refine Jn ?_|refine Ju ?_|refine Jy ?_|refine Jo ?_|refine Za 127 7 ?_|refine Za 1023 10 ?_|(refine Yd 4095 ?_;exact⟨(),Sb,hS.pk⟩)
     clear hS;rintro - w1 hS;refine Qw Tryz.func245 ?_;exact⟨_,ρ3,rfl,o2.trans o3,s3,hS.pk⟩
end
end Go.Proofs.YtcikdogkkgefcaaGreatDoor
