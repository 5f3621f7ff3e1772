/- Contracts of functions of the library in the numbers of this program, part 1. No condition. -/
import Derived.Shelf.Strings.Builder1
import Derived.Shelf.Strconv.Atoi
import Derived.Shelf.Strings.Search1
import Derived.Shelf.Strings.Search2
import Derived.Shelf.Strings.Search3
import Derived.Shelf.Strings.Count
import Derived.Shelf.Sort.Plain
import Derived.Test.YtmhkjfajejaniaaGreatDoorProg
import Derived.Shelf.Strings.SlTrimAscii
import Derived.Test.YtmhkjfajejaniaaGreatDoorW04
set_option linter.all false
namespace Go.Proofs
open Go.Shelf
def Tryz.lays160_ren:Go.Shelf.Ren:=⟨fun|160=>189|232=>246|231=>245|227=>247|234=>249|233=>248|236=>251|235=>250|228=>303|271=>305|151=>304|197=>186|120=>331|152=>330|260=>240|137=>345|119=>346|224=>243|225=>242|217=>241|266=>301|n=>n,fun|9=>9|4=>4|3=>3|5=>5|117=>307|116=>306|0=>0|124=>310|21=>21|105=>250|46=>239|119=>342|139=>345|138=>344|n=>n,fun|3=>1|4=>2|n=>n⟩
theorem Tryz.lays160:Go.Proofs.Lays.n160 Tryz.prog Tryz.lays160_ren:= {
 mixed:=by kernel_rfl
 f119:=Tryz.func346.trans (congrArg some (by kernel_rfl))
 f120:=Tryz.func331.trans (congrArg some (by kernel_rfl))
 f137:=Tryz.func345.trans (congrArg some (by kernel_rfl))
 f151:=Tryz.func304.trans (congrArg some (by kernel_rfl))
 f152:=Tryz.func330.trans (congrArg some (by kernel_rfl))
 f160:=Tryz.func189.trans (congrArg some (by kernel_rfl))
 f197:=Tryz.func186.trans (congrArg some (by kernel_rfl))
 f217:=Tryz.func241.trans (congrArg some (by kernel_rfl))
 f224:=Tryz.func243.trans (congrArg some (by kernel_rfl))
 f225:=Tryz.func242.trans (congrArg some (by kernel_rfl))
 f227:=Tryz.func247.trans (congrArg some (by kernel_rfl))
 f228:=Tryz.func303.trans (congrArg some (by kernel_rfl))
 f231:=Tryz.func245.trans (congrArg some (by kernel_rfl))
 f232:=Tryz.func246.trans (congrArg some (by kernel_rfl))
 f233:=Tryz.func248.trans (congrArg some (by kernel_rfl))
 f234:=Tryz.func249.trans (congrArg some (by kernel_rfl))
 f235:=Tryz.func250.trans (congrArg some (by kernel_rfl))
 f236:=Tryz.func251.trans (congrArg some (by kernel_rfl))
 f260:=Tryz.func240.trans (congrArg some (by kernel_rfl))
 f266:=Tryz.func301.trans (congrArg some (by kernel_rfl))
 f271:=Tryz.func305.trans (congrArg some (by kernel_rfl))
 t0:=Tryz.underlying0
 a0:=Tryz.isAgg0
 z0:=Tryz.sizeOf0
 v0:=Tryz.zeroValue0
 t3:=Tryz.underlying3
 a3:=Tryz.isAgg3
 z3:=Tryz.sizeOf3
 v3:=Tryz.zeroValue3
 t4:=Tryz.underlying4
 a4:=Tryz.isAgg4
 z4:=Tryz.sizeOf4
 v4:=Tryz.zeroValue4
 t5:=Tryz.underlying5
 a5:=Tryz.isAgg5
 z5:=Tryz.sizeOf5
 v5:=Tryz.zeroValue5
 t9:=Tryz.underlying9
 a9:=Tryz.isAgg9
 z9:=Tryz.sizeOf9
 v9:=Tryz.zeroValue9
 t21:=Tryz.underlying21
 a21:=Tryz.isAgg21
 z21:=Tryz.sizeOf21
 v21:=Tryz.zeroValue21
 t46:=Tryz.underlying239
 a46:=Tryz.isAgg239
 z46:=Tryz.sizeOf239
 v46:=Tryz.zeroValue239
 t105:=Tryz.underlying250
 a105:=Tryz.isAgg250
 z105:=Tryz.sizeOf250
 v105:=Tryz.zeroValue250
 t116:=Tryz.underlying306
 a116:=Tryz.isAgg306
 z116:=Tryz.sizeOf306
 t117:=Tryz.underlying307
 a117:=Tryz.isAgg307
 z117:=Tryz.sizeOf307
 v117:=Tryz.zeroValue307
 t119:=Tryz.underlying342
 a119:=Tryz.isAgg342
 z119:=Tryz.sizeOf342
 t124:=Tryz.underlying310
 a124:=Tryz.isAgg310
 z124:=Tryz.sizeOf310
 v124:=Tryz.zeroValue310
 t138:=Tryz.underlying344
 a138:=Tryz.isAgg344
 z138:=Tryz.sizeOf344
 v138:=Tryz.zeroValue344
 t139:=Tryz.underlying345
 a139:=Tryz.isAgg345
 z139:=Tryz.sizeOf345
 v139:=Tryz.zeroValue345
 g3:=by kernel_rfl
 g4:=by kernel_rfl }
def Tryz.lays172_ren:Go.Shelf.Ren:=⟨fun|172=>190|244=>252|245=>253|247=>306|279=>307|280=>308|281=>309|282=>310|287=>332|316=>333|171=>335|205=>334|321=>347|322=>348|243=>349|246=>350|283=>351|284=>352|285=>353|286=>354|129=>220|317=>355|318=>356|319=>357|320=>358|337=>359|338=>360|n=>n,fun|9=>9|3=>3|75=>255|76=>256|4=>4|5=>5|167=>350|37=>233|0=>0|85=>351|2=>2|168=>353|53=>288|175=>372|46=>239|210=>376|127=>312|145=>388|143=>386|21=>21|171=>390|173=>392|212=>395|51=>286|20=>20|213=>396|232=>397|233=>398|80=>262|n=>n,fun|15=>3|16=>4|17=>5|18=>6|19=>7|n=>n⟩
theorem Tryz.lays172:Go.Proofs.Lays.n172 Tryz.prog Tryz.lays172_ren:= {
 mixed:=by kernel_rfl
 f129:=Tryz.func220.trans (congrArg some (by kernel_rfl))
 f171:=Tryz.func335.trans (congrArg some (by kernel_rfl))
 f172:=Tryz.func190.trans (congrArg some (by kernel_rfl))
 f205:=Tryz.func334.trans (congrArg some (by kernel_rfl))
 f243:=Tryz.func349.trans (congrArg some (by kernel_rfl))
 f244:=Tryz.func252.trans (congrArg some (by kernel_rfl))
 f245:=Tryz.func253.trans (congrArg some (by kernel_rfl))
 f246:=Tryz.func350.trans (congrArg some (by kernel_rfl))
 f247:=Tryz.func306.trans (congrArg some (by kernel_rfl))
 f279:=Tryz.func307.trans (congrArg some (by kernel_rfl))
 f280:=Tryz.func308.trans (congrArg some (by kernel_rfl))
 f281:=Tryz.func309.trans (congrArg some (by kernel_rfl))
 f282:=Tryz.func310.trans (congrArg some (by kernel_rfl))
 f283:=Tryz.func351.trans (congrArg some (by kernel_rfl))
 f284:=Tryz.func352.trans (congrArg some (by kernel_rfl))
 f285:=Tryz.func353.trans (congrArg some (by kernel_rfl))
 f286:=Tryz.func354.trans (congrArg some (by kernel_rfl))
 f287:=Tryz.func332.trans (congrArg some (by kernel_rfl))
 f316:=Tryz.func333.trans (congrArg some (by kernel_rfl))
 f317:=Tryz.func355.trans (congrArg some (by kernel_rfl))
 f318:=Tryz.func356.trans (congrArg some (by kernel_rfl))
 f319:=Tryz.func357.trans (congrArg some (by kernel_rfl))
 f320:=Tryz.func358.trans (congrArg some (by kernel_rfl))
 f321:=Tryz.func347.trans (congrArg some (by kernel_rfl))
 f322:=Tryz.func348.trans (congrArg some (by kernel_rfl))
 f337:=Tryz.func359.trans (congrArg some (by kernel_rfl))
 f338:=Tryz.func360.trans (congrArg some (by kernel_rfl))
 t0:=Tryz.underlying0
 a0:=Tryz.isAgg0
 z0:=Tryz.sizeOf0
 v0:=Tryz.zeroValue0
 t2:=Tryz.underlying2
 a2:=Tryz.isAgg2
 z2:=Tryz.sizeOf2
 v2:=Tryz.zeroValue2
 t3:=Tryz.underlying3
 a3:=Tryz.isAgg3
 z3:=Tryz.sizeOf3
 v3:=Tryz.zeroValue3
 t4:=Tryz.underlying4
 a4:=Tryz.isAgg4
 z4:=Tryz.sizeOf4
 v4:=Tryz.zeroValue4
 t5:=Tryz.underlying5
 a5:=Tryz.isAgg5
 z5:=Tryz.sizeOf5
 v5:=Tryz.zeroValue5
 t9:=Tryz.underlying9
 a9:=Tryz.isAgg9
 z9:=Tryz.sizeOf9
 v9:=Tryz.zeroValue9
 t20:=Tryz.underlying20
 a20:=Tryz.isAgg20
 z20:=Tryz.sizeOf20
 v20:=Tryz.zeroValue20
 t21:=Tryz.underlying21
 a21:=Tryz.isAgg21
 z21:=Tryz.sizeOf21
 v21:=Tryz.zeroValue21
 t37:=Tryz.underlying233
 a37:=Tryz.isAgg233
 z37:=Tryz.sizeOf233
 v37:=Tryz.zeroValue233
 t46:=Tryz.underlying239
 a46:=Tryz.isAgg239
 z46:=Tryz.sizeOf239
 v46:=Tryz.zeroValue239
 t51:=Tryz.underlying286
 a51:=Tryz.isAgg286
 z51:=Tryz.sizeOf286
 v51:=Tryz.zeroValue286
 t53:=Tryz.underlying288
 a53:=Tryz.isAgg288
 z53:=Tryz.sizeOf288
 v53:=Tryz.zeroValue288
 t75:=Tryz.underlying255
 a75:=Tryz.isAgg255
 z75:=Tryz.sizeOf255
 v75:=Tryz.zeroValue255
 t76:=Tryz.underlying256
 a76:=Tryz.isAgg256
 z76:=Tryz.sizeOf256
 v76:=Tryz.zeroValue256
 t85:=Tryz.underlying351
 a85:=Tryz.isAgg351
 z85:=Tryz.sizeOf351
 v85:=Tryz.zeroValue351
 t127:=Tryz.underlying312
 a127:=Tryz.isAgg312
 z127:=Tryz.sizeOf312
 v127:=Tryz.zeroValue312
 t143:=Tryz.underlying386
 a143:=Tryz.isAgg386
 z143:=Tryz.sizeOf386
 v143:=Tryz.zeroValue386
 t145:=Tryz.underlying388
 a145:=Tryz.isAgg388
 z145:=Tryz.sizeOf388
 v145:=Tryz.zeroValue388
 t167:=Tryz.underlying350
 a167:=Tryz.isAgg350
 z167:=Tryz.sizeOf350
 v167:=Tryz.zeroValue350
 t168:=Tryz.underlying353
 a168:=Tryz.isAgg353
 z168:=Tryz.sizeOf353
 v168:=Tryz.zeroValue353
 t171:=Tryz.underlying390
 a171:=Tryz.isAgg390
 z171:=Tryz.sizeOf390
 v171:=Tryz.zeroValue390
 t173:=Tryz.underlying392
 a173:=Tryz.isAgg392
 z173:=Tryz.sizeOf392
 v173:=Tryz.zeroValue392
 t175:=Tryz.underlying372
 a175:=Tryz.isAgg372
 z175:=Tryz.sizeOf372
 v175:=Tryz.zeroValue372
 t210:=Tryz.underlying376
 a210:=Tryz.isAgg376
 z210:=Tryz.sizeOf376
 v210:=Tryz.zeroValue376
 t212:=Tryz.underlying395
 a212:=Tryz.isAgg395
 z212:=Tryz.sizeOf395
 v212:=Tryz.zeroValue395
 t213:=Tryz.underlying396
 a213:=Tryz.isAgg396
 z213:=Tryz.sizeOf396
 t232:=Tryz.underlying397
 a232:=Tryz.isAgg397
 z232:=Tryz.sizeOf397
 v232:=Tryz.zeroValue397
 t233:=Tryz.underlying398
 a233:=Tryz.isAgg398
 z233:=Tryz.sizeOf398
 v233:=Tryz.zeroValue398
 g15:=by kernel_rfl
 g16:=by kernel_rfl
 g17:=by kernel_rfl
 g18:=by kernel_rfl
 g19:=by kernel_rfl }
open Go.RowKit in
theorem Tryz.strconv_Atoi (s:ByteArray) (n:Int) (hl:s.size≤18) (h:Lib.atoi s.data.toList=some n) (w:World):
  Calls Tryz.prog 190 #[.string s] w fun e w'=>e= .returned (.tuple #[.int .i64 n, .nilIface])∧∃t,w'=Lib.bytesWorld w 5 t:=Any.strconv_Atoi Tryz.lays172 s n hl h w
def Tryz.laysM171_ren:Go.Shelf.Ren:=⟨fun|171=>335|243=>349|246=>350|283=>351|284=>352|285=>353|286=>354|129=>220|317=>355|318=>356|319=>357|320=>358|337=>359|338=>360|n=>n,fun|3=>3|9=>9|2=>2|4=>4|171=>390|0=>0|53=>288|37=>233|5=>5|173=>392|212=>395|51=>286|20=>20|213=>396|46=>239|232=>397|233=>398|n=>n,fun|17=>5|18=>6|19=>7|n=>n⟩
theorem Tryz.laysM171:Go.Proofs.LaysM.n171 Tryz.prog Tryz.laysM171_ren:= {
 mixed:=by kernel_rfl
 f129:=Tryz.func220.trans (congrArg some (by kernel_rfl))
 f171:=Tryz.func335.trans (congrArg some (by kernel_rfl))
 f243:=Tryz.func349.trans (congrArg some (by kernel_rfl))
 f246:=Tryz.func350.trans (congrArg some (by kernel_rfl))
 f283:=Tryz.func351.trans (congrArg some (by kernel_rfl))
 f284:=Tryz.func352.trans (congrArg some (by kernel_rfl))
 f285:=Tryz.func353.trans (congrArg some (by kernel_rfl))
 f286:=Tryz.func354.trans (congrArg some (by kernel_rfl))
 f317:=Tryz.func355.trans (congrArg some (by kernel_rfl))
 f318:=Tryz.func356.trans (congrArg some (by kernel_rfl))
 f319:=Tryz.func357.trans (congrArg some (by kernel_rfl))
 f320:=Tryz.func358.trans (congrArg some (by kernel_rfl))
 f337:=Tryz.func359.trans (congrArg some (by kernel_rfl))
 f338:=Tryz.func360.trans (congrArg some (by kernel_rfl))
 t0:=Tryz.underlying0
 a0:=Tryz.isAgg0
 z0:=Tryz.sizeOf0
 v0:=Tryz.zeroValue0
 t2:=Tryz.underlying2
 a2:=Tryz.isAgg2
 z2:=Tryz.sizeOf2
 v2:=Tryz.zeroValue2
 t3:=Tryz.underlying3
 a3:=Tryz.isAgg3
 z3:=Tryz.sizeOf3
 v3:=Tryz.zeroValue3
 t4:=Tryz.underlying4
 a4:=Tryz.isAgg4
 z4:=Tryz.sizeOf4
 v4:=Tryz.zeroValue4
 t5:=Tryz.underlying5
 a5:=Tryz.isAgg5
 z5:=Tryz.sizeOf5
 v5:=Tryz.zeroValue5
 t9:=Tryz.underlying9
 a9:=Tryz.isAgg9
 z9:=Tryz.sizeOf9
 v9:=Tryz.zeroValue9
 t20:=Tryz.underlying20
 a20:=Tryz.isAgg20
 z20:=Tryz.sizeOf20
 v20:=Tryz.zeroValue20
 t37:=Tryz.underlying233
 a37:=Tryz.isAgg233
 z37:=Tryz.sizeOf233
 v37:=Tryz.zeroValue233
 t46:=Tryz.underlying239
 a46:=Tryz.isAgg239
 z46:=Tryz.sizeOf239
 v46:=Tryz.zeroValue239
 t51:=Tryz.underlying286
 a51:=Tryz.isAgg286
 z51:=Tryz.sizeOf286
 v51:=Tryz.zeroValue286
 t53:=Tryz.underlying288
 a53:=Tryz.isAgg288
 z53:=Tryz.sizeOf288
 v53:=Tryz.zeroValue288
 t171:=Tryz.underlying390
 a171:=Tryz.isAgg390
 z171:=Tryz.sizeOf390
 v171:=Tryz.zeroValue390
 t173:=Tryz.underlying392
 a173:=Tryz.isAgg392
 z173:=Tryz.sizeOf392
 v173:=Tryz.zeroValue392
 t212:=Tryz.underlying395
 a212:=Tryz.isAgg395
 z212:=Tryz.sizeOf395
 v212:=Tryz.zeroValue395
 t213:=Tryz.underlying396
 a213:=Tryz.isAgg396
 z213:=Tryz.sizeOf396
 t232:=Tryz.underlying397
 a232:=Tryz.isAgg397
 z232:=Tryz.sizeOf397
 v232:=Tryz.zeroValue397
 t233:=Tryz.underlying398
 a233:=Tryz.isAgg398
 z233:=Tryz.sizeOf398
 v233:=Tryz.zeroValue398
 g17:=by kernel_rfl
 g18:=by kernel_rfl
 g19:=by kernel_rfl
 i0:=by kernel_rfl
 i2:=by kernel_rfl
 i3:=by kernel_rfl
 i4:=by kernel_rfl
 i5:=by kernel_rfl
 i9:=by kernel_rfl
 i20:=by kernel_rfl
 i37:=by kernel_rfl
 i46:=by kernel_rfl
 i51:=by kernel_rfl
 i53:=by kernel_rfl
 i171:=by kernel_rfl
 i173:=by kernel_rfl
 i212:=by kernel_rfl
 i232:=by kernel_rfl
 i233:=by kernel_rfl
 m17:=by kernel_rfl
 m18:=by kernel_rfl
 m19:=by kernel_rfl }
def Tryz.lays219_ren:Go.Shelf.Ren:=⟨fun|219=>188|217=>241|225=>242|224=>243|267=>244|266=>301|314=>302|n=>n,fun|9=>9|3=>3|4=>4|5=>5|46=>239|146=>346|51=>286|n=>n,fun|1=>0|n=>n⟩
theorem Tryz.lays219:Go.Proofs.Lays.n219 Tryz.prog Tryz.lays219_ren:= {
 mixed:=by kernel_rfl
 f217:=Tryz.func241.trans (congrArg some (by kernel_rfl))
 f219:=Tryz.func188.trans (congrArg some (by kernel_rfl))
 f224:=Tryz.func243.trans (congrArg some (by kernel_rfl))
 f225:=Tryz.func242.trans (congrArg some (by kernel_rfl))
 f266:=Tryz.func301.trans (congrArg some (by kernel_rfl))
 f267:=Tryz.func244.trans (congrArg some (by kernel_rfl))
 f314:=Tryz.func302.trans (congrArg some (by kernel_rfl))
 t3:=Tryz.underlying3
 a3:=Tryz.isAgg3
 z3:=Tryz.sizeOf3
 v3:=Tryz.zeroValue3
 t4:=Tryz.underlying4
 a4:=Tryz.isAgg4
 z4:=Tryz.sizeOf4
 v4:=Tryz.zeroValue4
 t5:=Tryz.underlying5
 a5:=Tryz.isAgg5
 z5:=Tryz.sizeOf5
 v5:=Tryz.zeroValue5
 t9:=Tryz.underlying9
 a9:=Tryz.isAgg9
 z9:=Tryz.sizeOf9
 v9:=Tryz.zeroValue9
 t46:=Tryz.underlying239
 a46:=Tryz.isAgg239
 z46:=Tryz.sizeOf239
 v46:=Tryz.zeroValue239
 t51:=Tryz.underlying286
 a51:=Tryz.isAgg286
 z51:=Tryz.sizeOf286
 v51:=Tryz.zeroValue286
 t146:=Tryz.underlying346
 a146:=Tryz.isAgg346
 z146:=Tryz.sizeOf346
 v146:=Tryz.zeroValue346
 g1:=by kernel_rfl }
open Go.RowKit Go.Lib in
theorem Tryz.stringslite_Index_one (s:ByteArray) (c:UInt8) (w:World):
  Calls Tryz.prog 188 #[.string s, .string ⟨#[c]⟩] w fun e w'=>e= .returned (.int .i64 (Lib.indexByte s.data.toList c))∧w'=w:=Any.stringslite_Index_one Tryz.lays219 s c w
def Tryz.lays143_ren:Go.Shelf.Ren:=⟨fun|143=>131|219=>188|217=>241|225=>242|224=>243|267=>244|266=>301|314=>302|n=>n,fun|9=>9|3=>3|4=>4|5=>5|46=>239|146=>346|51=>286|n=>n,fun|1=>0|n=>n⟩
theorem Tryz.lays143:Go.Proofs.Lays.n143 Tryz.prog Tryz.lays143_ren:= {
 mixed:=by kernel_rfl
 f143:=Tryz.func131.trans (congrArg some (by kernel_rfl))
 f217:=Tryz.func241.trans (congrArg some (by kernel_rfl))
 f219:=Tryz.func188.trans (congrArg some (by kernel_rfl))
 f224:=Tryz.func243.trans (congrArg some (by kernel_rfl))
 f225:=Tryz.func242.trans (congrArg some (by kernel_rfl))
 f266:=Tryz.func301.trans (congrArg some (by kernel_rfl))
 f267:=Tryz.func244.trans (congrArg some (by kernel_rfl))
 f314:=Tryz.func302.trans (congrArg some (by kernel_rfl))
 t3:=Tryz.underlying3
 a3:=Tryz.isAgg3
 z3:=Tryz.sizeOf3
 v3:=Tryz.zeroValue3
 t4:=Tryz.underlying4
 a4:=Tryz.isAgg4
 z4:=Tryz.sizeOf4
 v4:=Tryz.zeroValue4
 t5:=Tryz.underlying5
 a5:=Tryz.isAgg5
 z5:=Tryz.sizeOf5
 v5:=Tryz.zeroValue5
 t9:=Tryz.underlying9
 a9:=Tryz.isAgg9
 z9:=Tryz.sizeOf9
 v9:=Tryz.zeroValue9
 t46:=Tryz.underlying239
 a46:=Tryz.isAgg239
 z46:=Tryz.sizeOf239
 v46:=Tryz.zeroValue239
 t51:=Tryz.underlying286
 a51:=Tryz.isAgg286
 z51:=Tryz.sizeOf286
 v51:=Tryz.zeroValue286
 t146:=Tryz.underlying346
 a146:=Tryz.isAgg346
 z146:=Tryz.sizeOf346
 v146:=Tryz.zeroValue346
 g1:=by kernel_rfl }
open Go.RowKit Go.Lib in
theorem Tryz.strings_Index_one (s:ByteArray) (c:UInt8) (w:World):
  Calls Tryz.prog 131 #[.string s, .string ⟨#[c]⟩] w fun e w'=>e= .returned (.int .i64 (Lib.indexByte s.data.toList c))∧w'=w:=Any.strings_Index_one Tryz.lays143 s c w
def Tryz.lays138_ren:Go.Shelf.Ren:=⟨fun|138=>130|195=>185|218=>187|143=>131|219=>188|217=>241|225=>242|224=>243|267=>244|266=>301|314=>302|n=>n,fun|9=>9|3=>3|4=>4|5=>5|0=>0|46=>239|146=>346|51=>286|n=>n,fun|1=>0|n=>n⟩
theorem Tryz.lays138:Go.Proofs.Lays.n138 Tryz.prog Tryz.lays138_ren:= {
 mixed:=by kernel_rfl
 f138:=Tryz.func130.trans (congrArg some (by kernel_rfl))
 f143:=Tryz.func131.trans (congrArg some (by kernel_rfl))
 f195:=Tryz.func185.trans (congrArg some (by kernel_rfl))
 f217:=Tryz.func241.trans (congrArg some (by kernel_rfl))
 f218:=Tryz.func187.trans (congrArg some (by kernel_rfl))
 f219:=Tryz.func188.trans (congrArg some (by kernel_rfl))
 f224:=Tryz.func243.trans (congrArg some (by kernel_rfl))
 f225:=Tryz.func242.trans (congrArg some (by kernel_rfl))
 f266:=Tryz.func301.trans (congrArg some (by kernel_rfl))
 f267:=Tryz.func244.trans (congrArg some (by kernel_rfl))
 f314:=Tryz.func302.trans (congrArg some (by kernel_rfl))
 t0:=Tryz.underlying0
 a0:=Tryz.isAgg0
 z0:=Tryz.sizeOf0
 v0:=Tryz.zeroValue0
 t3:=Tryz.underlying3
 a3:=Tryz.isAgg3
 z3:=Tryz.sizeOf3
 v3:=Tryz.zeroValue3
 t4:=Tryz.underlying4
 a4:=Tryz.isAgg4
 z4:=Tryz.sizeOf4
 v4:=Tryz.zeroValue4
 t5:=Tryz.underlying5
 a5:=Tryz.isAgg5
 z5:=Tryz.sizeOf5
 v5:=Tryz.zeroValue5
 t9:=Tryz.underlying9
 a9:=Tryz.isAgg9
 z9:=Tryz.sizeOf9
 v9:=Tryz.zeroValue9
 t46:=Tryz.underlying239
 a46:=Tryz.isAgg239
 z46:=Tryz.sizeOf239
 v46:=Tryz.zeroValue239
 t51:=Tryz.underlying286
 a51:=Tryz.isAgg286
 z51:=Tryz.sizeOf286
 v51:=Tryz.zeroValue286
 t146:=Tryz.underlying346
 a146:=Tryz.isAgg346
 z146:=Tryz.sizeOf346
 v146:=Tryz.zeroValue346
 g1:=by kernel_rfl }
open Go.RowKit Go.Lib in
theorem Tryz.strings_Count_one (s:ByteArray) (c:UInt8) (w:World):
  Calls Tryz.prog 130 #[.string s, .string ⟨#[c]⟩] w fun e w'=>e= .returned (.int .i64 (Lib.countByte s.data.toList c))∧w'=w:=Any.strings_Count_one Tryz.lays138 s c w
end Go.Proofs
namespace Go.V
abbrev zCT:=List (Nat× (List D×D))
def zUH:zCT→Nat→List D→Option D
 | [],_,_=>none
 |(k,x)::l,g,args=>match Nat.beq k g with
  |true=>match zVw x.1 args with
   |true=>some x.2
   |false=>zUH l g args
  |false=>zUH l g args
def zDC (lib:FuncId→List D→(Nat→Option Obj)→zVd) (m:zCT) (g:FuncId) (args:List D) (hp:Nat→Option Obj):zVd:=
 match lib g args hp with
 |some d=>some d
 |none=>zMA (zUH m g args)
def zWp (P:Program) (lib:FuncId→List D→(Nat→Option Obj)→zVd):Prop:=∀g args (h:Heap) r,lib g args h.at'=some r→zA P g args h fun a b=>a=r.1∧b=zf7 r.2 h
def za (P:Program):zCT→Prop
 | []=>True
 |(k,x)::l=>(∀h,zA P k x.1 h fun a b=>a=x.2∧b=h)∧za P l
theorem zKp {P:Program} :∀ {m:zCT},za P m→∀g args h d,zUH m g args=some d→zA P g args h fun a b=>a=d∧b=h
 | [],_,_,_,_,_,hl=>by cases hl
 |(k,x)::l,hm,g,args,h,d,hl=>by
  simp only[zUH] at hl;split at hl
  ·rename_i hk;split at hl
   ·rename_i he;cases hl;rw[←Nat.eq_of_beq_eq_true hk,←zFd _ _ he];exact hm.1 h
   ·exact zKp hm.2 g args h d hl
  ·exact zKp hm.2 g args h d hl
theorem zaQ {P:Program} {lib:FuncId→List D→(Nat→Option Obj)→zVd} {m:zCT} (hl:zWp P lib) (hm:za P m):zWp P (zDC lib m):=fun g args h r he=>by
 unfold zDC at he;split at he
 ·rename_i d' hd;cases he;exact hl g args h _ hd
 ·unfold zMA at he;split at he
  ·rename_i d hd;cases he;exact zKp hm g args h d hd
  ·cases he
theorem zGw {P:Program} {g:FuncId} {args:List D} {h:Heap} {o:Option D} {r:D×Option (Nat×Obj)} (hr:zMA o=some r) (hv:∀d,o=some d→zA P g args h fun a b=>a=d∧b=h):zA P g args h fun a b=>a=r.1∧b=zf7 r.2 h:=by
 unfold zMA at hr;split at hr
 ·rename_i d;cases hr;exact hv d rfl
 ·cases hr
theorem za.add {P:Program} (hmix:P.follows .mixedOrders=true) {tab:List (Nat× (Func×Cfg))} (htab:zFe P tab) {sett:FuncId→Bool} {lib:FuncId→List D→(Nat→Option Obj)→zVd} (hl:zWp P lib) {m:zCT} (hm:za P m)
  {fuel k:Nat} {f:FuncId} {args:List D} {d:D} (hb:zAU args=true) (hd:zD3 d=true)
  (hx:(zCO P tab sett (zDC lib m) fuel k [] (.fn (.func f) [] []) args HT.emp).map (fun r=>yA r.1 r.2.heap)=some d):za P ((f,(args,d))::m):=
 ⟨fun h=>(zA.of_run hmix htab (zaQ hl hm) hb hd hx h).mono fun a b hab=>⟨hab.2,hab.1⟩,hm⟩
open Go.RowKit (Below)
theorem zA.of_lib {P:Program} {f:FuncId} {ds:List D} {d:D} (he:wm P f=true)
  (hc:∀ (M:Imm) (ρ:Ren) (va:Array Value) (w:World),zu M ρ ds va.toList→Calls P f va w fun e w'=>∃v,e= .returned v∧Bel w.heap.size w w'∧∀ (M':Imm) (ρ':Ren),rel M' ρ' d v) (h:Heap):
  zA P f ds h fun a b=>a=d∧b=h:=by
 refine⟨he,fun w0 G M ρ w va hg0 hs hfr hr=>(hc M ρ va w hr).mono fun e w' hq=> ?_⟩;obtain⟨v,rfl,hb,hv⟩:=hq;exact⟨v,M,ρ,d,h,rfl,MLe.refl _,RLe.refl _,hs.world hb,hfr,hv M ρ,rfl,rfl⟩
theorem zKq {M:Imm} {ρ:Ren} {s t:List UInt8} {va:Array Value} (hr:zu M ρ [.str s, .str t] va.toList):∃b c:ByteArray,va= #[.string b, .string c]∧b.data.toList=s∧c.data.toList=t∧s.length≤lim∧t.length≤lim:=by
 simp only[zu,rel] at hr;obtain⟨v,vs,e,⟨b,rfl,h1,h2⟩,v',vs',e',⟨c,rfl,h3,h4⟩,rfl⟩:=hr;subst e';exact⟨b,c,Array.ext' (by simpa using e),h1,h3,h2,h4⟩
def zcK (n:Int):Option D:=if IntKind.i64.wrap n==n then some (.int .i64 n) else none
theorem zQI {n:Int} {d:D} (h:zcK n=some d) (M:Imm) (ρ:Ren):rel M ρ d (.int .i64 n):=by
 unfold zcK at h;split at h
 ·rename_i hw;cases h;exact yR (show fits _ _ from by unfold fits;simpa using hw)
 ·cases h
def zgg (s:List UInt8):Option D:=if decide (s.length≤lim) then some (.str s) else none
theorem zWq {s:List UInt8} {d:D} (h:zgg s=some d) (M:Imm) (ρ:Ren):rel M ρ d (.string ⟨s.toArray⟩):=by
 unfold zgg at h;split at h
 ·rename_i hw;cases h;simp only[rel];exact⟨_,rfl,by simp,by simpa using hw⟩
 ·cases h
def zEz:List D→Option D
 | [.str s, .str t]=>match t with
  | [c]=>zcK (Lib.indexByte s c)
  |_=>none
 |_=>none
def zGx:List D→Option D
 | [.str s, .str t]=>match t with
  | [c]=>zcK (Lib.countByte s c)
  |_=>none
 |_=>none
def zKr:List D→Option D
 | [.str s, .str c]=>if Nat.ble 2 c.length&&c.all (fun b=>decide (b.toNat<128))&&Nat.blt c.length 4294967281 then zgg (Lib.trimS s c) else none
 |_=>none
theorem zMY {b:ByteArray} {c:UInt8} (h:b.data.toList= [c]):b= ⟨#[c]⟩:=by
 cases b with
 |mk a=>
  have:a= #[c]:=Array.ext' (by simpa using h);rw[this]
theorem zEJ {P:Program} {f:FuncId} (he:wm P f=true) (hc:∀ (s:ByteArray) (c:UInt8) (w:World),Calls P f #[.string s, .string ⟨#[c]⟩] w fun e w'=>e= .returned (.int .i64 (Lib.indexByte s.data.toList c))∧w'=w)
  {args:List D} {d:D} (hl:zEz args=some d) (h:Heap):zA P f args h fun a b=>a=d∧b=h:=by
 unfold zEz at hl;split at hl
 ·rename_i s t;split at hl
  ·rename_i c;refine zA.of_lib he (fun M ρ va w hr=> ?_) h;obtain⟨b1,b2,rfl,rfl,h2,_,_⟩:=zKq hr;rw[zMY h2];refine(hc b1 c w).mono fun e w' hq=> ?_;obtain⟨rfl,rfl⟩:=hq;exact⟨_,rfl,Bel.refl _ _,fun M' ρ'=>zQI hl M' ρ'⟩
  ·cases hl
 ·cases hl
theorem zHr {P:Program} {f:FuncId} (he:wm P f=true) (hc:∀ (s:ByteArray) (c:UInt8) (w:World),Calls P f #[.string s, .string ⟨#[c]⟩] w fun e w'=>e= .returned (.int .i64 (Lib.countByte s.data.toList c))∧w'=w)
  {args:List D} {d:D} (hl:zGx args=some d) (h:Heap):zA P f args h fun a b=>a=d∧b=h:=by
 unfold zGx at hl;split at hl
 ·rename_i s t;split at hl
  ·rename_i c;refine zA.of_lib he (fun M ρ va w hr=> ?_) h;obtain⟨b1,b2,rfl,rfl,h2,_,_⟩:=zKq hr;rw[zMY h2];refine(hc b1 c w).mono fun e w' hq=> ?_;obtain⟨rfl,rfl⟩:=hq;exact⟨_,rfl,Bel.refl _ _,fun M' ρ'=>zQI hl M' ρ'⟩
  ·cases hl
 ·cases hl
theorem zQJ {P:Program} {ρ:Go.Shelf.Ren} (L:Go.Proofs.Lays.n160 P ρ) (h116:(P.info? (ρ.t 116)).map (fun i=>(i.zero,i.size))=some (some (.agg (Array.replicate 256 (.bool false))),256)) (s cutset:ByteArray) (w:World) (h2:2≤cutset.size) (hs:s.size≤9223372036854775807) (hcs:cutset.size<4294967281)
  (hascii:∀ (j:Nat) b,cutset.data.toList[j]? =some b→b.toNat<128):
  Calls P (ρ.f 160) #[.string s, .string cutset] w fun e w'=>e= .returned (.string ⟨(Lib.trimS s.data.toList cutset.data.toList).toArray⟩)∧Bel w.heap.size w w':=by
 by_cases hs0:s.size=0
 ·refine(Go.Proofs.Any.strings_Trim_empty L s cutset w (.inl hs0)).mono fun e w' ⟨h1,h2⟩=>⟨?_,h2▸Bel.refl _ _⟩;have hl:s.data.toList= []:=List.eq_nil_of_length_eq_zero (by rw[←Lib.size_eq];exact hs0);rw[h1,hl];congr 2;rw[←Lib.mk_data s,hl];rfl
 ·refine(Go.Proofs.Any.strings_Trim_set L (Go.zero_of_info h116).1 (Go.zero_of_info h116).2 s cutset w h2 (by omega) hs hcs hascii).mono fun e w' ⟨h1,h2⟩=>⟨h1,?_⟩;obtain⟨q,rfl⟩:=h2;exact⟨(((Below.refl _ _).alloc (Nat.le_refl _) _).alloc (by simp) _).trans ⟨rfl,rfl,rfl,Nat.le_refl _,fun _ _=>rfl⟩,Nat.le_add_right _ _⟩
theorem zJd {P : Program} {f : FuncId} (he : wm P f = true) (hc : ∀ (s c : ByteArray) (w : World), 2 ≤ c.size → s.size ≤ 9223372036854775807 → c.size < 4294967281 → (∀ (j : Nat) b, c.data.toList[j]? = some b → b.toNat < 128) →
      Calls P f #[.string s, .string c] w fun e w' => e = .returned (.string ⟨(Lib.trimS s.data.toList c.data.toList).toArray⟩) ∧ Bel w.heap.size w w')
    {args : List D} {d : D} (hl : zKr args = some d) (h : Heap) : zA P f args h fun a b => a = d ∧ b = h := by
  unfold zKr at hl;split at hl
  · rename_i s c
    split at hl
    · rename_i hcond
      simp only [Bool.and_eq_true] at hcond;have hlt : c.length < 4294967281 := by rw [← Nat.blt_eq]; exact hcond.2
      refine zA.of_lib he (fun M ρ va w hr => ?_) h;obtain ⟨b1, b2, rfl, rfl, rfl, h3, _⟩ := zKq hr;have e1 : b1.size = b1.data.toList.length := by rw [Array.length_toList]; rfl
      have e2 : b2.size = b2.data.toList.length := by rw [Array.length_toList]; rfl
      refine (hc b1 b2 w (by rw [e2]; exact by have := hcond.1.1; rwa [Nat.ble_eq] at this) (by rw [e1]; unfold lim at h3; omega) (by rw [e2]; exact hlt) (Go.Proofs.ascii_of_all hcond.1.2)).mono fun e w' hq => ?_;obtain ⟨rfl, hb⟩ := hq;exact ⟨_, rfl, hb, fun M' ρ' => zWq hl M' ρ'⟩
    · cases hl
  · cases hl
end Go.V
