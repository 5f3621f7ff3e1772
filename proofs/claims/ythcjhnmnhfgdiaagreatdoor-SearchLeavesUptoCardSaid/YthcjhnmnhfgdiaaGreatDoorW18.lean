/- Contracts of functions of the library in the numbers of this program, part 1. No condition. -/
import Derived.Shelf.Strings.Builder1
import Derived.Shelf.Strconv.Atoi
import Derived.Shelf.Strings.Search1
import Derived.Shelf.Strings.Search2
import Derived.Shelf.Strings.Search3
import Derived.Shelf.Strings.Count
import Derived.Shelf.Sort.Plain
import Derived.Test.YthcjhnmnhfgdiaaGreatDoorProg
import Derived.Shelf.Strings.SlTrimAscii
import Derived.Test.YthcjhnmnhfgdiaaGreatDoorW03
set_option linter.all false
set_option maxHeartbeats 8000000
namespace Go.Proofs
open Go.Shelf
def Tryz.lays160_ren:Go.Shelf.Ren:=⟨fun|160=>249|232=>309|231=>308|227=>310|234=>312|233=>311|236=>314|235=>313|228=>376|271=>378|151=>377|197=>246|120=>403|152=>402|260=>303|137=>412|119=>413|224=>306|225=>305|217=>304|266=>374|n=>n,fun|9=>9|4=>4|3=>3|5=>5|117=>352|116=>351|0=>0|124=>355|21=>21|105=>300|46=>145|119=>384|139=>387|138=>386|n=>n,fun|3=>1|4=>2|n=>n⟩
def Tryz.lays160:Go.Proofs.Lays.n160 Tryz.prog Tryz.lays160_ren:= {
 mixed:=by kernel_rfl
 f119:=Tryz.func413.trans (congrArg some (by kernel_rfl))
 f120:=Tryz.func403.trans (congrArg some (by kernel_rfl))
 f137:=Tryz.func412.trans (congrArg some (by kernel_rfl))
 f151:=Tryz.func377.trans (congrArg some (by kernel_rfl))
 f152:=Tryz.func402.trans (congrArg some (by kernel_rfl))
 f160:=Tryz.func249.trans (congrArg some (by kernel_rfl))
 f197:=Tryz.func246.trans (congrArg some (by kernel_rfl))
 f217:=Tryz.func304.trans (congrArg some (by kernel_rfl))
 f224:=Tryz.func306.trans (congrArg some (by kernel_rfl))
 f225:=Tryz.func305.trans (congrArg some (by kernel_rfl))
 f227:=Tryz.func310.trans (congrArg some (by kernel_rfl))
 f228:=Tryz.func376.trans (congrArg some (by kernel_rfl))
 f231:=Tryz.func308.trans (congrArg some (by kernel_rfl))
 f232:=Tryz.func309.trans (congrArg some (by kernel_rfl))
 f233:=Tryz.func311.trans (congrArg some (by kernel_rfl))
 f234:=Tryz.func312.trans (congrArg some (by kernel_rfl))
 f235:=Tryz.func313.trans (congrArg some (by kernel_rfl))
 f236:=Tryz.func314.trans (congrArg some (by kernel_rfl))
 f260:=Tryz.func303.trans (congrArg some (by kernel_rfl))
 f266:=Tryz.func374.trans (congrArg some (by kernel_rfl))
 f271:=Tryz.func378.trans (congrArg some (by kernel_rfl))
 t0:=Tryz.underlying0
 a0:=Tryz.isAgg0
 z0:=Tryz.sizeOf0
 v0:=Tryz.zeroValue0
 t3:=Tryz.underlying3
 a3:=Tryz.isAgg3
 z3:=Tryz.sizeOf3
 v3:=Tryz.zeroValue3
 t4:=Tryz.underlying4
 a4:=Tryz.isAgg4
 z4:=Tryz.sizeOf4
 v4:=Tryz.zeroValue4
 t5:=Tryz.underlying5
 a5:=Tryz.isAgg5
 z5:=Tryz.sizeOf5
 v5:=Tryz.zeroValue5
 t9:=Tryz.underlying9
 a9:=Tryz.isAgg9
 z9:=Tryz.sizeOf9
 v9:=Tryz.zeroValue9
 t21:=Tryz.underlying21
 a21:=Tryz.isAgg21
 z21:=Tryz.sizeOf21
 v21:=Tryz.zeroValue21
 t46:=Tryz.underlying145
 a46:=Tryz.isAgg145
 z46:=Tryz.sizeOf145
 v46:=Tryz.zeroValue145
 t105:=Tryz.underlying300
 a105:=Tryz.isAgg300
 z105:=Tryz.sizeOf300
 v105:=Tryz.zeroValue300
 t116:=Tryz.underlying351
 a116:=Tryz.isAgg351
 z116:=Tryz.sizeOf351
 t117:=Tryz.underlying352
 a117:=Tryz.isAgg352
 z117:=Tryz.sizeOf352
 v117:=Tryz.zeroValue352
 t119:=Tryz.underlying384
 a119:=Tryz.isAgg384
 z119:=Tryz.sizeOf384
 t124:=Tryz.underlying355
 a124:=Tryz.isAgg355
 z124:=Tryz.sizeOf355
 v124:=Tryz.zeroValue355
 t138:=Tryz.underlying386
 a138:=Tryz.isAgg386
 z138:=Tryz.sizeOf386
 v138:=Tryz.zeroValue386
 t139:=Tryz.underlying387
 a139:=Tryz.isAgg387
 z139:=Tryz.sizeOf387
 v139:=Tryz.zeroValue387
 g3:=by kernel_rfl
 g4:=by kernel_rfl }
def Tryz.lays172_ren:Go.Shelf.Ren:=⟨fun|172=>250|244=>315|245=>316|247=>379|279=>380|280=>381|281=>382|282=>383|287=>404|316=>405|171=>407|205=>406|321=>414|322=>415|243=>416|246=>417|283=>418|284=>419|285=>420|286=>421|129=>148|317=>422|318=>423|319=>424|320=>425|337=>426|338=>427|n=>n,fun|9=>9|3=>3|75=>305|76=>306|4=>4|5=>5|167=>392|37=>268|0=>0|85=>393|2=>2|168=>395|53=>221|175=>414|46=>145|210=>418|127=>357|145=>428|143=>426|21=>21|171=>430|173=>432|212=>435|51=>219|20=>20|213=>436|232=>437|233=>438|80=>312|n=>n,fun|15=>3|16=>4|17=>5|18=>6|19=>7|n=>n⟩
theorem Tryz.lays172:Go.Proofs.Lays.n172 Tryz.prog Tryz.lays172_ren:= {
 mixed:=by kernel_rfl
 f129:=Tryz.func148.trans (congrArg some (by kernel_rfl))
 f171:=Tryz.func407.trans (congrArg some (by kernel_rfl))
 f172:=Tryz.func250.trans (congrArg some (by kernel_rfl))
 f205:=Tryz.func406.trans (congrArg some (by kernel_rfl))
 f243:=Tryz.func416.trans (congrArg some (by kernel_rfl))
 f244:=Tryz.func315.trans (congrArg some (by kernel_rfl))
 f245:=Tryz.func316.trans (congrArg some (by kernel_rfl))
 f246:=Tryz.func417.trans (congrArg some (by kernel_rfl))
 f247:=Tryz.func379.trans (congrArg some (by kernel_rfl))
 f279:=Tryz.func380.trans (congrArg some (by kernel_rfl))
 f280:=Tryz.func381.trans (congrArg some (by kernel_rfl))
 f281:=Tryz.func382.trans (congrArg some (by kernel_rfl))
 f282:=Tryz.func383.trans (congrArg some (by kernel_rfl))
 f283:=Tryz.func418.trans (congrArg some (by kernel_rfl))
 f284:=Tryz.func419.trans (congrArg some (by kernel_rfl))
 f285:=Tryz.func420.trans (congrArg some (by kernel_rfl))
 f286:=Tryz.func421.trans (congrArg some (by kernel_rfl))
 f287:=Tryz.func404.trans (congrArg some (by kernel_rfl))
 f316:=Tryz.func405.trans (congrArg some (by kernel_rfl))
 f317:=Tryz.func422.trans (congrArg some (by kernel_rfl))
 f318:=Tryz.func423.trans (congrArg some (by kernel_rfl))
 f319:=Tryz.func424.trans (congrArg some (by kernel_rfl))
 f320:=Tryz.func425.trans (congrArg some (by kernel_rfl))
 f321:=Tryz.func414.trans (congrArg some (by kernel_rfl))
 f322:=Tryz.func415.trans (congrArg some (by kernel_rfl))
 f337:=Tryz.func426.trans (congrArg some (by kernel_rfl))
 f338:=Tryz.func427.trans (congrArg some (by kernel_rfl))
 t0:=Tryz.underlying0
 a0:=Tryz.isAgg0
 z0:=Tryz.sizeOf0
 v0:=Tryz.zeroValue0
 t2:=Tryz.underlying2
 a2:=Tryz.isAgg2
 z2:=Tryz.sizeOf2
 v2:=Tryz.zeroValue2
 t3:=Tryz.underlying3
 a3:=Tryz.isAgg3
 z3:=Tryz.sizeOf3
 v3:=Tryz.zeroValue3
 t4:=Tryz.underlying4
 a4:=Tryz.isAgg4
 z4:=Tryz.sizeOf4
 v4:=Tryz.zeroValue4
 t5:=Tryz.underlying5
 a5:=Tryz.isAgg5
 z5:=Tryz.sizeOf5
 v5:=Tryz.zeroValue5
 t9:=Tryz.underlying9
 a9:=Tryz.isAgg9
 z9:=Tryz.sizeOf9
 v9:=Tryz.zeroValue9
 t20:=Tryz.underlying20
 a20:=Tryz.isAgg20
 z20:=Tryz.sizeOf20
 v20:=Tryz.zeroValue20
 t21:=Tryz.underlying21
 a21:=Tryz.isAgg21
 z21:=Tryz.sizeOf21
 v21:=Tryz.zeroValue21
 t37:=Tryz.underlying268
 a37:=Tryz.isAgg268
 z37:=Tryz.sizeOf268
 v37:=Tryz.zeroValue268
 t46:=Tryz.underlying145
 a46:=Tryz.isAgg145
 z46:=Tryz.sizeOf145
 v46:=Tryz.zeroValue145
 t51:=Tryz.underlying219
 a51:=Tryz.isAgg219
 z51:=Tryz.sizeOf219
 v51:=Tryz.zeroValue219
 t53:=Tryz.underlying221
 a53:=Tryz.isAgg221
 z53:=Tryz.sizeOf221
 v53:=Tryz.zeroValue221
 t75:=Tryz.underlying305
 a75:=Tryz.isAgg305
 z75:=Tryz.sizeOf305
 v75:=Tryz.zeroValue305
 t76:=Tryz.underlying306
 a76:=Tryz.isAgg306
 z76:=Tryz.sizeOf306
 v76:=Tryz.zeroValue306
 t85:=Tryz.underlying393
 a85:=Tryz.isAgg393
 z85:=Tryz.sizeOf393
 v85:=Tryz.zeroValue393
 t127:=Tryz.underlying357
 a127:=Tryz.isAgg357
 z127:=Tryz.sizeOf357
 v127:=Tryz.zeroValue357
 t143:=Tryz.underlying426
 a143:=Tryz.isAgg426
 z143:=Tryz.sizeOf426
 v143:=Tryz.zeroValue426
 t145:=Tryz.underlying428
 a145:=Tryz.isAgg428
 z145:=Tryz.sizeOf428
 v145:=Tryz.zeroValue428
 t167:=Tryz.underlying392
 a167:=Tryz.isAgg392
 z167:=Tryz.sizeOf392
 v167:=Tryz.zeroValue392
 t168:=Tryz.underlying395
 a168:=Tryz.isAgg395
 z168:=Tryz.sizeOf395
 v168:=Tryz.zeroValue395
 t171:=Tryz.underlying430
 a171:=Tryz.isAgg430
 z171:=Tryz.sizeOf430
 v171:=Tryz.zeroValue430
 t173:=Tryz.underlying432
 a173:=Tryz.isAgg432
 z173:=Tryz.sizeOf432
 v173:=Tryz.zeroValue432
 t175:=Tryz.underlying414
 a175:=Tryz.isAgg414
 z175:=Tryz.sizeOf414
 v175:=Tryz.zeroValue414
 t210:=Tryz.underlying418
 a210:=Tryz.isAgg418
 z210:=Tryz.sizeOf418
 v210:=Tryz.zeroValue418
 t212:=Tryz.underlying435
 a212:=Tryz.isAgg435
 z212:=Tryz.sizeOf435
 v212:=Tryz.zeroValue435
 t213:=Tryz.underlying436
 a213:=Tryz.isAgg436
 z213:=Tryz.sizeOf436
 t232:=Tryz.underlying437
 a232:=Tryz.isAgg437
 z232:=Tryz.sizeOf437
 v232:=Tryz.zeroValue437
 t233:=Tryz.underlying438
 a233:=Tryz.isAgg438
 z233:=Tryz.sizeOf438
 v233:=Tryz.zeroValue438
 g15:=by kernel_rfl
 g16:=by kernel_rfl
 g17:=by kernel_rfl
 g18:=by kernel_rfl
 g19:=by kernel_rfl }
open Go.RowKit in
def Tryz.strconv_Atoi (s:ByteArray) (n:Int) (a:s.size<=18) (h:Lib.atoi s.data.toList=some n) (w:World):
  Calls Tryz.prog 250 #[.string s] w λe b=>e= .returned (.tuple #[.int .i64 n, .nilIface])/\∃t,b=Lib.bytesWorld w 5 t:=Any.strconv_Atoi Tryz.lays172 s n a h w
def Tryz.laysM171_ren:Go.Shelf.Ren:=⟨fun|171=>407|243=>416|246=>417|283=>418|284=>419|285=>420|286=>421|129=>148|317=>422|318=>423|319=>424|320=>425|337=>426|338=>427|n=>n,fun|3=>3|9=>9|2=>2|4=>4|171=>430|0=>0|53=>221|37=>268|5=>5|173=>432|212=>435|51=>219|20=>20|213=>436|46=>145|232=>437|233=>438|n=>n,fun|17=>5|18=>6|19=>7|n=>n⟩
def Tryz.laysM171:Go.Proofs.LaysM.n171 Tryz.prog Tryz.laysM171_ren:= {
 mixed:=by kernel_rfl
 f129:=Tryz.func148.trans (congrArg some (by kernel_rfl))
 f171:=Tryz.func407.trans (congrArg some (by kernel_rfl))
 f243:=Tryz.func416.trans (congrArg some (by kernel_rfl))
 f246:=Tryz.func417.trans (congrArg some (by kernel_rfl))
 f283:=Tryz.func418.trans (congrArg some (by kernel_rfl))
 f284:=Tryz.func419.trans (congrArg some (by kernel_rfl))
 f285:=Tryz.func420.trans (congrArg some (by kernel_rfl))
 f286:=Tryz.func421.trans (congrArg some (by kernel_rfl))
 f317:=Tryz.func422.trans (congrArg some (by kernel_rfl))
 f318:=Tryz.func423.trans (congrArg some (by kernel_rfl))
 f319:=Tryz.func424.trans (congrArg some (by kernel_rfl))
 f320:=Tryz.func425.trans (congrArg some (by kernel_rfl))
 f337:=Tryz.func426.trans (congrArg some (by kernel_rfl))
 f338:=Tryz.func427.trans (congrArg some (by kernel_rfl))
 t0:=Tryz.underlying0
 a0:=Tryz.isAgg0
 z0:=Tryz.sizeOf0
 v0:=Tryz.zeroValue0
 t2:=Tryz.underlying2
 a2:=Tryz.isAgg2
 z2:=Tryz.sizeOf2
 v2:=Tryz.zeroValue2
 t3:=Tryz.underlying3
 a3:=Tryz.isAgg3
 z3:=Tryz.sizeOf3
 v3:=Tryz.zeroValue3
 t4:=Tryz.underlying4
 a4:=Tryz.isAgg4
 z4:=Tryz.sizeOf4
 v4:=Tryz.zeroValue4
 t5:=Tryz.underlying5
 a5:=Tryz.isAgg5
 z5:=Tryz.sizeOf5
 v5:=Tryz.zeroValue5
 t9:=Tryz.underlying9
 a9:=Tryz.isAgg9
 z9:=Tryz.sizeOf9
 v9:=Tryz.zeroValue9
 t20:=Tryz.underlying20
 a20:=Tryz.isAgg20
 z20:=Tryz.sizeOf20
 v20:=Tryz.zeroValue20
 t37:=Tryz.underlying268
 a37:=Tryz.isAgg268
 z37:=Tryz.sizeOf268
 v37:=Tryz.zeroValue268
 t46:=Tryz.underlying145
 a46:=Tryz.isAgg145
 z46:=Tryz.sizeOf145
 v46:=Tryz.zeroValue145
 t51:=Tryz.underlying219
 a51:=Tryz.isAgg219
 z51:=Tryz.sizeOf219
 v51:=Tryz.zeroValue219
 t53:=Tryz.underlying221
 a53:=Tryz.isAgg221
 z53:=Tryz.sizeOf221
 v53:=Tryz.zeroValue221
 t171:=Tryz.underlying430
 a171:=Tryz.isAgg430
 z171:=Tryz.sizeOf430
 v171:=Tryz.zeroValue430
 t173:=Tryz.underlying432
 a173:=Tryz.isAgg432
 z173:=Tryz.sizeOf432
 v173:=Tryz.zeroValue432
 t212:=Tryz.underlying435
 a212:=Tryz.isAgg435
 z212:=Tryz.sizeOf435
 v212:=Tryz.zeroValue435
 t213:=Tryz.underlying436
 a213:=Tryz.isAgg436
 z213:=Tryz.sizeOf436
 t232:=Tryz.underlying437
 a232:=Tryz.isAgg437
 z232:=Tryz.sizeOf437
 v232:=Tryz.zeroValue437
 t233:=Tryz.underlying438
 a233:=Tryz.isAgg438
 z233:=Tryz.sizeOf438
 v233:=Tryz.zeroValue438
 g17:=by kernel_rfl
 g18:=by kernel_rfl
 g19:=by kernel_rfl
 i0:=by kernel_rfl
 i2:=by kernel_rfl
 i3:=by kernel_rfl
 i4:=by kernel_rfl
 i5:=by kernel_rfl
 i9:=by kernel_rfl
 i20:=by kernel_rfl
 i37:=by kernel_rfl
 i46:=by kernel_rfl
 i51:=by kernel_rfl
 i53:=by kernel_rfl
 i171:=by kernel_rfl
 i173:=by kernel_rfl
 i212:=by kernel_rfl
 i232:=by kernel_rfl
 i233:=by kernel_rfl
 m17:=by kernel_rfl
 m18:=by kernel_rfl
 m19:=by kernel_rfl }
def Tryz.lays219_ren:Go.Shelf.Ren:=⟨fun|219=>248|217=>304|225=>305|224=>306|267=>307|266=>374|314=>375|n=>n,fun|9=>9|3=>3|4=>4|5=>5|46=>145|146=>388|51=>219|n=>n,fun|1=>0|n=>n⟩
def Tryz.lays219:Go.Proofs.Lays.n219 Tryz.prog Tryz.lays219_ren:= {
 mixed:=by kernel_rfl
 f217:=Tryz.func304.trans (congrArg some (by kernel_rfl))
 f219:=Tryz.func248.trans (congrArg some (by kernel_rfl))
 f224:=Tryz.func306.trans (congrArg some (by kernel_rfl))
 f225:=Tryz.func305.trans (congrArg some (by kernel_rfl))
 f266:=Tryz.func374.trans (congrArg some (by kernel_rfl))
 f267:=Tryz.func307.trans (congrArg some (by kernel_rfl))
 f314:=Tryz.func375.trans (congrArg some (by kernel_rfl))
 t3:=Tryz.underlying3
 a3:=Tryz.isAgg3
 z3:=Tryz.sizeOf3
 v3:=Tryz.zeroValue3
 t4:=Tryz.underlying4
 a4:=Tryz.isAgg4
 z4:=Tryz.sizeOf4
 v4:=Tryz.zeroValue4
 t5:=Tryz.underlying5
 a5:=Tryz.isAgg5
 z5:=Tryz.sizeOf5
 v5:=Tryz.zeroValue5
 t9:=Tryz.underlying9
 a9:=Tryz.isAgg9
 z9:=Tryz.sizeOf9
 v9:=Tryz.zeroValue9
 t46:=Tryz.underlying145
 a46:=Tryz.isAgg145
 z46:=Tryz.sizeOf145
 v46:=Tryz.zeroValue145
 t51:=Tryz.underlying219
 a51:=Tryz.isAgg219
 z51:=Tryz.sizeOf219
 v51:=Tryz.zeroValue219
 t146:=Tryz.underlying388
 a146:=Tryz.isAgg388
 z146:=Tryz.sizeOf388
 v146:=Tryz.zeroValue388
 g1:=by kernel_rfl }
open Go.RowKit Go.Lib in
def Tryz.stringslite_Index_one (s:ByteArray) (c:UInt8) (w:World):
  Calls Tryz.prog 248 #[.string s, .string ⟨#[c]⟩] w λe a=>e= .returned (.int .i64 (Lib.indexByte s.data.toList c))/\a=w:=Any.stringslite_Index_one Tryz.lays219 s c w
def Tryz.lays143_ren:Go.Shelf.Ren:=⟨fun|143=>175|219=>248|217=>304|225=>305|224=>306|267=>307|266=>374|314=>375|n=>n,fun|9=>9|3=>3|4=>4|5=>5|46=>145|146=>388|51=>219|n=>n,fun|1=>0|n=>n⟩
def Tryz.lays143:Go.Proofs.Lays.n143 Tryz.prog Tryz.lays143_ren:= {
 mixed:=by kernel_rfl
 f143:=Tryz.func175.trans (congrArg some (by kernel_rfl))
 f217:=Tryz.func304.trans (congrArg some (by kernel_rfl))
 f219:=Tryz.func248.trans (congrArg some (by kernel_rfl))
 f224:=Tryz.func306.trans (congrArg some (by kernel_rfl))
 f225:=Tryz.func305.trans (congrArg some (by kernel_rfl))
 f266:=Tryz.func374.trans (congrArg some (by kernel_rfl))
 f267:=Tryz.func307.trans (congrArg some (by kernel_rfl))
 f314:=Tryz.func375.trans (congrArg some (by kernel_rfl))
 t3:=Tryz.underlying3
 a3:=Tryz.isAgg3
 z3:=Tryz.sizeOf3
 v3:=Tryz.zeroValue3
 t4:=Tryz.underlying4
 a4:=Tryz.isAgg4
 z4:=Tryz.sizeOf4
 v4:=Tryz.zeroValue4
 t5:=Tryz.underlying5
 a5:=Tryz.isAgg5
 z5:=Tryz.sizeOf5
 v5:=Tryz.zeroValue5
 t9:=Tryz.underlying9
 a9:=Tryz.isAgg9
 z9:=Tryz.sizeOf9
 v9:=Tryz.zeroValue9
 t46:=Tryz.underlying145
 a46:=Tryz.isAgg145
 z46:=Tryz.sizeOf145
 v46:=Tryz.zeroValue145
 t51:=Tryz.underlying219
 a51:=Tryz.isAgg219
 z51:=Tryz.sizeOf219
 v51:=Tryz.zeroValue219
 t146:=Tryz.underlying388
 a146:=Tryz.isAgg388
 z146:=Tryz.sizeOf388
 v146:=Tryz.zeroValue388
 g1:=by kernel_rfl }
open Go.RowKit Go.Lib in
def Tryz.strings_Index_one (s:ByteArray) (c:UInt8) (w:World):
  Calls Tryz.prog 175 #[.string s, .string ⟨#[c]⟩] w λe a=>e= .returned (.int .i64 (Lib.indexByte s.data.toList c))/\a=w:=Any.strings_Index_one Tryz.lays143 s c w
def Tryz.lays138_ren:Go.Shelf.Ren:=⟨fun|138=>174|195=>245|218=>247|143=>175|219=>248|217=>304|225=>305|224=>306|267=>307|266=>374|314=>375|n=>n,fun|9=>9|3=>3|4=>4|5=>5|0=>0|46=>145|146=>388|51=>219|n=>n,fun|1=>0|n=>n⟩
def Tryz.lays138:Go.Proofs.Lays.n138 Tryz.prog Tryz.lays138_ren:= {
 mixed:=by kernel_rfl
 f138:=Tryz.func174.trans (congrArg some (by kernel_rfl))
 f143:=Tryz.func175.trans (congrArg some (by kernel_rfl))
 f195:=Tryz.func245.trans (congrArg some (by kernel_rfl))
 f217:=Tryz.func304.trans (congrArg some (by kernel_rfl))
 f218:=Tryz.func247.trans (congrArg some (by kernel_rfl))
 f219:=Tryz.func248.trans (congrArg some (by kernel_rfl))
 f224:=Tryz.func306.trans (congrArg some (by kernel_rfl))
 f225:=Tryz.func305.trans (congrArg some (by kernel_rfl))
 f266:=Tryz.func374.trans (congrArg some (by kernel_rfl))
 f267:=Tryz.func307.trans (congrArg some (by kernel_rfl))
 f314:=Tryz.func375.trans (congrArg some (by kernel_rfl))
 t0:=Tryz.underlying0
 a0:=Tryz.isAgg0
 z0:=Tryz.sizeOf0
 v0:=Tryz.zeroValue0
 t3:=Tryz.underlying3
 a3:=Tryz.isAgg3
 z3:=Tryz.sizeOf3
 v3:=Tryz.zeroValue3
 t4:=Tryz.underlying4
 a4:=Tryz.isAgg4
 z4:=Tryz.sizeOf4
 v4:=Tryz.zeroValue4
 t5:=Tryz.underlying5
 a5:=Tryz.isAgg5
 z5:=Tryz.sizeOf5
 v5:=Tryz.zeroValue5
 t9:=Tryz.underlying9
 a9:=Tryz.isAgg9
 z9:=Tryz.sizeOf9
 v9:=Tryz.zeroValue9
 t46:=Tryz.underlying145
 a46:=Tryz.isAgg145
 z46:=Tryz.sizeOf145
 v46:=Tryz.zeroValue145
 t51:=Tryz.underlying219
 a51:=Tryz.isAgg219
 z51:=Tryz.sizeOf219
 v51:=Tryz.zeroValue219
 t146:=Tryz.underlying388
 a146:=Tryz.isAgg388
 z146:=Tryz.sizeOf388
 v146:=Tryz.zeroValue388
 g1:=by kernel_rfl }
open Go.RowKit Go.Lib in
def Tryz.strings_Count_one (s:ByteArray) (c:UInt8) (w:World):
  Calls Tryz.prog 174 #[.string s, .string ⟨#[c]⟩] w λe a=>e= .returned (.int .i64 (Lib.countByte s.data.toList c))/\a=w:=Any.strings_Count_one Tryz.lays138 s c w
end Go.Proofs
namespace Go.V
abbrev tC:=List (Nat× (List D×D))
def Nw:tC->Nat->List D->Option D
 | [],_,_=>none
 |(k,x)::l,g,args=>match Nat.beq k g with
  |true=>match KQ x.1 args with
   |true=>some x.2
   |false=>Nw l g args
  |false=>Nw l g args
def tc (lib:FuncId->List D->(Nat->Option Obj)->Lt) (m:tC) (g:FuncId) (args:List D) (hp:Nat->Option Obj):Lt:=
 match lib g args hp with
 |some d=>some d
 |none=>YG (Nw m g args)
def JJ (P:Program) (lib:FuncId->List D->(Nat->Option Obj)->Lt):Prop:=∀g args (h:Heap) r,lib g args h.at'=some r->zA P g args h λa b=>a=r.1/\b=zBS r.2 h
def zN (P:Program):tC->Prop
 | []=>True
 |(k,x)::l=>(∀h,zA P k x.1 h λa b=>a=x.2/\b=h)/\zN P l
variable {P:Program}{args ds:List D}{h:Heap}{f:FuncId}{d:D}{M:Imm}{ρ:Ren}{va:Array Value}{s:List UInt8}
theorem az:∀ {m:tC},zN P m->∀g args h d,Nw m g args=some d->zA P g args h λa b=>a=d/\b=h
 | [],_,_,_,_,_,c=>by cases c
 |(k,x)::l,e,g,args,h,d,c=>by
  simp only[Nw] at c;split at c
  ·rename_i i;split at c
   ·rename_i f;cases c;rw[<-Nat.eq_of_beq_eq_true i,<-lg _ _ f];exact e.1 h
   ·exact az e.2 g args h d c
  ·exact az e.2 g args h d c
def Fu {b:FuncId->List D->(Nat->Option Obj)->Lt} {m:tC} (e:JJ P b) (f:zN P m):JJ P (tc b m):=λg args h r a=>by
 unfold tc at a;split at a
 ·rename_i i c;cases a;exact e g args h _ c
 ·unfold YG at a;split at a
  ·rename_i d c;cases a;exact az f g args h d c
  ·cases a
def jo {g:FuncId} {o:Option D} {r:D×Option (Nat×Obj)} (hr:YG o=some r) (c:∀d,o=some d->zA P g args h λa b=>a=d/\b=h):zA P g args h λa b=>a=r.1/\b=zBS r.2 h:=by
 unfold YG at hr;split at hr
 ·rename_i d;cases hr;exact c d rfl
 ·cases hr
def zN.add (e:P.follows .mixedOrders=true) {tab:List (Nat× (Func×Cfg))} (g:lh P tab) {j:FuncId->Bool} {i:FuncId->List D->(Nat->Option Obj)->Lt} (p:JJ P i) {m:tC} (l:zN P m)
  {fuel k:Nat} (n:uk args=true) (o:nC d=true)
  (q:(tA P tab j (tc i m) fuel k [] (.fn (.func f) [] []) args HT.emp).map (λr=>zm r.1 r.2.heap)=some d):zN P ((f,(args,d))::m):=
 ⟨λh=>(zA.of_run e g (Fu p l) n o q h).mono λa b c=>⟨c.2,c.1⟩,l⟩
open Go.RowKit (Below)
def zA.of_lib (l:wu P f=true)
  (k:∀ (M:Imm) (ρ:Ren) (c:Array Value) (w:World),yD M ρ ds c.toList->Calls P f c w λe i=>∃v,e= .returned v/\Bel w.heap.size w i/\∀ (M':Imm) (q:Ren),rel M' q d v) (h:Heap):
  zA P f ds h λa b=>a=d/\b=h:=by
 refine⟨l,λw0 G M ρ w c m o g hr=>(k M ρ c w hr).mono λe i n=> ?_⟩;obtain⟨v,rfl,j,p⟩:=n;exact⟨v,M,ρ,d,h,rfl,MLe.refl _,RLe.refl _,o.world j,g,p M ρ,rfl,rfl⟩
def ZA {s t:List UInt8} (hr:yD M ρ [.str s, .str t] va.toList):∃b c:ByteArray,va= #[.string b, .string c]/\b.data.toList=s/\c.data.toList=t/\s.length<=lim/\t.length<=lim:=by
 simp only[yD,rel] at hr;obtain⟨v,vs,e,⟨b,rfl,h1,d⟩,h,g,a,⟨c,rfl,h3,f⟩,rfl⟩:=hr;subst a;exact⟨b,c,Array.ext' (by simpa using e),h1,h3,d,f⟩
def D9 (n:Int):Option D:=if IntKind.i64.wrap n==n then some (.int .i64 n) else none
def U3 {n:Int} (h:D9 n=some d) (M:Imm) (ρ:Ren):rel M ρ d (.int .i64 n):=by
 unfold D9 at h;split at h
 ·rename_i a;cases h;exact yj (show fits _ _ from by unfold fits;simpa using a)
 ·cases h
def zBy (s:List UInt8):Option D:=if decide (s.length<=lim) then some (.str s) else none
def JK (h:zBy s=some d) (M:Imm) (ρ:Ren):rel M ρ d (.string ⟨s.toArray⟩):=by
 unfold zBy at h;split at h
 ·rename_i a;cases h;simp only[rel];exact⟨_,rfl,by simp,by simpa using a⟩
 ·cases h
def mY:List D->Option D
 | [.str s, .str t]=>match t with
  | [c]=>D9 (Lib.indexByte s c)
  |_=>none
 |_=>none
def jq:List D->Option D
 | [.str s, .str t]=>match t with
  | [c]=>D9 (Lib.countByte s c)
  |_=>none
 |_=>none
def ZB:List D->Option D
 | [.str s, .str c]=>if Nat.ble 2 c.length&&c.all (λb=>decide (b.toNat<128))&&Nat.blt c.length 4294967281 then zBy (Lib.trimS s c) else none
 |_=>none
def Yn {b:ByteArray} {c:UInt8} (h:b.data.toList= [c]):b= ⟨#[c]⟩:=by
 cases b with
 |mk a=>
  have:a= #[c]:=Array.ext' (by simpa using h);rw[this]
def nT (m:wu P f=true) (l:∀ (s:ByteArray) (c:UInt8) (w:World),Calls P f #[.string s, .string ⟨#[c]⟩] w λe i=>e= .returned (.int .i64 (Lib.indexByte s.data.toList c))/\i=w) (g:mY args=some d) (h:Heap):zA P f args h λa b=>a=d/\b=h:=by
 unfold mY at g;split at g
 ·rename_i s t;split at g
  ·rename_i c;refine zA.of_lib m (λM ρ q w hr=> ?_) h;obtain⟨j,p,rfl,rfl,k,_,_⟩:=ZA hr;rw[Yn k];refine(l j c w).mono λe i n=> ?_;obtain⟨rfl,rfl⟩:=n;exact⟨_,rfl,Bel.refl _ _,λM' o=>U3 g M' o⟩
  ·cases g
 ·cases g
def fD (m:wu P f=true) (l:∀ (s:ByteArray) (c:UInt8) (w:World),Calls P f #[.string s, .string ⟨#[c]⟩] w λe i=>e= .returned (.int .i64 (Lib.countByte s.data.toList c))/\i=w) (g:jq args=some d) (h:Heap):zA P f args h λa b=>a=d/\b=h:=by
 unfold jq at g;split at g
 ·rename_i s t;split at g
  ·rename_i c;refine zA.of_lib m (λM ρ q w hr=> ?_) h;obtain⟨j,p,rfl,rfl,k,_,_⟩:=ZA hr;rw[Yn k];refine(l j c w).mono λe i n=> ?_;obtain⟨rfl,rfl⟩:=n;exact⟨_,rfl,Bel.refl _ _,λM' o=>U3 g M' o⟩
  ·cases g
 ·cases g
def U4 {ρ:Go.Shelf.Ren} (L:Go.Proofs.Lays.n160 P ρ) (d:(P.info? (ρ.t 116)).map (λi=>(i.zero,i.size))=some (some (.agg (Array.replicate 256 (.bool false))),256)) (s a:ByteArray) (w:World) (g:2<=a.size) (n:s.size<=9223372036854775807) (k:a.size<4294967281)
  (c:∀ (j:Nat) b,a.data.toList[j]? =some b->b.toNat<128):
  Calls P (ρ.f 160) #[.string s, .string a] w λe l=>e= .returned (.string ⟨(Lib.trimS s.data.toList a.data.toList).toArray⟩)/\Bel w.heap.size w l:=by
 by_cases h:s.size=0
 ·refine(Go.Proofs.Any.strings_Trim_empty L s a w (.inl h)).mono λe l ⟨h1,g⟩=>⟨?_,g▸Bel.refl _ _⟩;have m:s.data.toList= []:=List.eq_nil_of_length_eq_zero (by rw[<-Lib.size_eq];exact h);rw[h1,m];congr 2;rw[<-Lib.mk_data s,m];rfl
 ·refine(Go.Proofs.Any.strings_Trim_set L (Go.zero_of_info d).1 (Go.zero_of_info d).2 s a w g ow n k c).mono λe l ⟨h1,g⟩=>⟨h1,?_⟩;obtain⟨q,rfl⟩:=g;exact⟨(((Below.refl _ _).alloc (Nat.le_refl _) _).alloc (by simp) _).trans ⟨rfl,rfl,rfl,Nat.le_refl _,λ_ _=>rfl⟩,Nat.le_add_right _ _⟩
def bF {P : Program} {f : FuncId} (q : wu P f = true) (p : ∀ (s c : ByteArray) (w : World), 2 <= c.size -> s.size <= 9223372036854775807 -> c.size < 4294967281 -> (∀ (j : Nat) b, c.data.toList[j]? = some b -> b.toNat < 128) ->
      Calls P f #[.string s, .string c] w λe n => e = .returned (.string ⟨(Lib.trimS s.data.toList c.data.toList).toArray⟩) /\ Bel w.heap.size w n)
    {args : List D} {d : D} (i : ZB args = some d) (h : Heap) : zA P f args h λa b => a = d /\ b = h := by
  unfold ZB at i;split at i
  · rename_i s c
    split at i
    · rename_i g
      simp only [Bool.and_eq_true] at g;have m : c.length < 4294967281 := by rw [<- Nat.blt_eq]; exact g.2
      refine zA.of_lib q (λM ρ u w hr => ?_) h;obtain ⟨k, l, rfl, rfl, rfl, h3, _⟩ := ZA hr;have e1 : k.size = k.data.toList.length := by rw [Array.length_toList]; rfl
      have e2 : l.size = l.data.toList.length := by rw [Array.length_toList]; rfl
      refine (p k l w (by rw [e2]; exact by have := g.1.1; rwa [Nat.ble_eq] at this) (by rw [e1]; unfold lim at h3; omega) (by rw [e2]; exact m) (Go.Proofs.ascii_of_all g.1.2)).mono λe n r => ?_;obtain ⟨rfl, o⟩ := r;exact ⟨_, rfl, o, λM' t => JK i M' t⟩
    · cases i
  · cases i
end Go.V
