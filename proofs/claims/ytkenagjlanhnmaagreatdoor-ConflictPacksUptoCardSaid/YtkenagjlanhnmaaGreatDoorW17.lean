/- How functions of this program are read by the machine, part 1. No condition. -/
import Derived.Test.YtkenagjlanhnmaaGreatDoorW03
import Derived.KernelRfl
import Derived.Test.YtkenagjlanhnmaaGreatDoorProg
import Derived.Shelf.Strings.Search1
import Derived.Shelf.Strings.Count
import Derived.Shelf.Strings.SlTrimAscii
set_option linter.all false
set_option maxHeartbeats 8000000
noncomputable section
namespace Go.V
open Go.Proofs.Tryz
open Go.Proofs
abbrev zPx:Cfg:=zm [] []
abbrev zEv:Cfg:=zm [] [(6,nr 0 9)]
abbrev zLM:Cfg:=zm [] [(6,nr 0 10)]
abbrev CW:Cfg:=zm [7] []
abbrev Cg:Cfg:=zm [] [(4,nr 0 17),(6,nr 0 18)]
abbrev zK7:Cfg:=zm [] [(6,nr 0 12)]
abbrev zF7:Cfg:=zm [] [(3,[(0,.st)]++nr 1 3)]
abbrev zEa:Cfg:=zm [] [(4,nr 0 10)]
abbrev C2:Cfg:=zm [] [(1,nr 0 4++ [(5,.no),(6,.st),(7,.no),(8,.st),(4,.no)]++nr 9 4)]
abbrev zFI:Cfg:=zm [] [(6,nr 0 10),(11,nr 0 10)]
abbrev zLL:Cfg:=zm [] [(10,nr 0 12)]
abbrev BQ:Cfg:=zm [] [(1,[(2,.no),(6,.no),(0,.no),(1,.no)]++nr 3 3++nr 7 5)]
abbrev zFj:Cfg:=zm [] [(4,nr 0 6)]
def ok9:Fo prog 9 f9 zPx:=⟨func9,kr⟩
def zJo:Fo prog 21 f21 zPx:=⟨func21,kr⟩
def zPG:Fo prog 33 f33 zPx:=⟨func33,kr⟩
def zQB:Fo prog 45 f45 zPx:=⟨func45,kr⟩
def zPN:Fo prog 51 f51 zPx:=⟨func51,kr⟩
def zPQ:Fo prog 69 f69 zPx:=⟨func69,kr⟩
abbrev zF2:Cfg:=zm [] [(10,nr 0 11),(16,nr 0 8)]
def zPS:Fo prog 75 f75 zF2:=⟨func75,kr⟩
def zPV:Fo prog 87 f87 zPx:=⟨func87,kr⟩
abbrev zGC:Cfg:=zm [5] [(1,[(0,.no),(1,.no),(3,.no),(4,.st),(2,.no),(6,.no),(5,.no)]++nr 7 3),(3,[(0,.no),(1,.st)]++nr 2 14),(4,nr 0 20)]
def zPZ:Fo prog 93 f93 zGC:=⟨func93,kr⟩
def zQQ:Fo prog 99 f99 zLM:=⟨func99,kr⟩
abbrev zEQ:Cfg:=zm [] [(9,nr 0 25)]
def zLd:Fo prog 117 f117 zEQ:=⟨func117,kr⟩
def zGv:Fo prog 123 f123 zPx:=⟨func123,kr⟩
def zG1:Fo prog 129 f129 zPx:=⟨func129,kr⟩
def zG7:Fo prog 153 f153 CW:=⟨func153,kr⟩
abbrev Ca:Cfg:=zm [] [(4,nr 0 5)]
def zHB:Fo prog 173 f173 zPx:=⟨func173,kr⟩
def zHE:Fo prog 179 f179 zPx:=⟨func179,kr⟩
abbrev Cq:Cfg:=zm [] [(7,[(0,.st),(2,.no),(3,.no),(1,.no)]++nr 4 6)]
def E6:Fo prog 185 f185 Cq:=⟨func185,kr⟩
def zHN:Fo prog 191 f191 zPx:=⟨func191,kr⟩
def zHS:Fo prog 197 f197 zPx:=⟨func197,kr⟩
def E7:Fo prog 209 f209 zPx:=⟨func209,kr⟩
abbrev zEi:Cfg:=zm [] [(14,[(0,.st),(1,.no),(2,.st),(3,.no),(4,.no),(5,.st),(6,.sq)]++nr 7 6),(20,nr 0 12)]
def zBx:Fo prog 223 f223 zEi:=⟨func223,kr⟩
abbrev Mr:Cfg:=zm [] [(6,nr 0 19)]
def zHa:Fo prog 229 f229 Mr:=⟨func229,kr⟩
abbrev BB:Cfg:=zm [] [(17,nr 0 17)]
def zHe:Fo prog 235 f235 BB:=⟨func235,kr⟩
def zHk:Fo prog 247 f247 zPx:=⟨func247,kr⟩
def zMF:Fo prog 253 f253 zPx:=⟨func253,kr⟩
def zMN:Fo prog 280 f280 zPx:=⟨func280,kr⟩
def zHq:Fo prog 286 f286 zPx:=⟨func286,kr⟩
abbrev BR:Cfg:=zm [] [(4,nr 0 15),(6,nr 0 18)]
def zMV:Fo prog 311 f311 zPx:=⟨func311,kr⟩
def zHv:Fo prog 317 f317 zPx:=⟨func317,kr⟩
def zH1:Fo prog 323 f323 zPx:=⟨func323,kr⟩
def zMc:Fo prog 329 f329 zPx:=⟨func329,kr⟩
def zMh:Fo prog 335 f335 zPx:=⟨func335,kr⟩
def zMn:Fo prog 353 f353 zPx:=⟨func353,kr⟩
def zMs:Fo prog 359 f359 zPx:=⟨func359,kr⟩
def zH9:Fo prog 365 f365 zPx:=⟨func365,kr⟩
def zMx:Fo prog 384 f384 zPx:=⟨func384,kr⟩
def zIE:Fo prog 396 f396 zPx:=⟨func396,kr⟩
def zIH:Fo prog 431 f431 zPx:=⟨func431,kr⟩
def zP4:Fo prog 22 f22 zK7:=⟨func22,kr⟩
def zP7:Fo prog 28 f28 zPx:=⟨func28,kr⟩
def zMk:Fo prog 34 f34 zPx:=⟨func34,kr⟩
def zM2:Fo prog 40 f40 zPx:=⟨func40,kr⟩
def zQC:Fo prog 46 f46 zPx:=⟨func46,kr⟩
def zM6:Fo prog 52 f52 zPx:=⟨func52,kr⟩
def zPO:Fo prog 58 f58 zPx:=⟨func58,kr⟩
def zQN:Fo prog 70 f70 zPx:=⟨func70,kr⟩
def zPT:Fo prog 76 f76 zPx:=⟨func76,kr⟩
def zPW:Fo prog 88 f88 zF7:=⟨func88,kr⟩
abbrev zGD:Cfg:=zm [] [(1,nr 0 3++ [(3,.st)]++nr 4 5++ [(9,.st)]++nr 10 5)]
def zPa:Fo prog 94 f94 zGD:=⟨func94,kr⟩
def zLT:Fo prog 100 f100 zEv:=⟨func100,kr⟩
abbrev Dx:Cfg:=zm [] [(3,[(0,.no),(1,.no),(2,.st),(4,.no),(5,.no),(6,.st),(9,.no),(10,.no),(11,.st),(14,.no),(15,.no),(16,.st),(3,.st),(7,.st),(8,.st),(12,.st),(13,.st),(17,.st)]++nr 18 3),(6,nr 0 7),(7,[(6,.no)]++nr 0 6++nr 7 6)]
def zGp:Fo prog 112 f112 zPx:=⟨func112,kr⟩
abbrev CC:Cfg:=zm [] [(16,nr 0 8++ [(13,.no)]++nr 8 5++nr 14 4)]
def zGt:Fo prog 118 f118 CC:=⟨func118,kr⟩
def zGw:Fo prog 124 f124 zPx:=⟨func124,kr⟩
def zG2:Fo prog 130 f130 zPx:=⟨func130,kr⟩
def zG4:Fo prog 148 f148 zPx:=⟨func148,kr⟩
abbrev zEW:Cfg:=zm [] [(11,nr 0 19)]
def zLl:Fo prog 154 f154 zEW:=⟨func154,kr⟩
def zLy:Fo prog 180 f180 zEa:=⟨func180,kr⟩
def zHI:Fo prog 186 f186 zPx:=⟨func186,kr⟩
def zHO:Fo prog 192 f192 zPx:=⟨func192,kr⟩
def zHT:Fo prog 198 f198 C2:=⟨func198,kr⟩
def zL5:Fo prog 224 f224 zPx:=⟨func224,kr⟩
abbrev Ms:Cfg:=zm [] [(3,nr 0 10),(6,[(0,.no),(9,.no)]++nr 1 8++nr 10 10),(7,nr 0 34),(8,[(0,.no),(1,.no),(8,.no)]++nr 2 6++nr 9 7)]
def zHb:Fo prog 230 f230 Ms:=⟨func230,kr⟩
def zHf:Fo prog 236 f236 zPx:=⟨func236,kr⟩
def zHl:Fo prog 248 f248 zPx:=⟨func248,kr⟩
def zMG:Fo prog 254 f254 zPx:=⟨func254,kr⟩
abbrev zEw:Cfg:=zm [] [(1,nr 0 20)]
def zMI:Fo prog 275 f275 zEw:=⟨func275,kr⟩
abbrev zE3:Cfg:=zm [] [(8,nr 0 13)]
def zMO:Fo prog 281 f281 zE3:=⟨func281,kr⟩
abbrev zE5:Cfg:=zm [] [(1,[(2,.no),(0,.no),(1,.no)]++nr 3 10)]
def zMQ:Fo prog 287 f287 zE5:=⟨func287,kr⟩
def zMW:Fo prog 312 f312 zPx:=⟨func312,kr⟩
def zHw:Fo prog 318 f318 zPx:=⟨func318,kr⟩
def zH2:Fo prog 324 f324 zPx:=⟨func324,kr⟩
def zMd:Fo prog 330 f330 C2:=⟨func330,kr⟩
abbrev Be:Cfg:=zm [2] []
def zMi:Fo prog 336 f336 Be:=⟨func336,kr⟩
def zMo:Fo prog 354 f354 zPx:=⟨func354,kr⟩
abbrev zFW:Cfg:=zm [] [(8,nr 0 9),(10,nr 0 9)]
def zMt:Fo prog 360 f360 zFW:=⟨func360,kr⟩
def zIA:Fo prog 366 f366 zPx:=⟨func366,kr⟩
abbrev zEP:Cfg:=zm [] [(10,[(0,.st),(7,.st)]++nr 1 6++nr 8 6)]
def zLZ:Fo prog 11 f11 zEP:=⟨func11,kr⟩
abbrev zK6:Cfg:=zm [] [(7,nr 0 14),(14,[(1,.no),(0,.no)]++nr 2 8)]
def zP2:Fo prog 17 f17 zK6:=⟨func17,kr⟩
def zP8:Fo prog 29 f29 zPx:=⟨func29,kr⟩
def zP9:Fo prog 35 f35 zPx:=⟨func35,kr⟩
def zPH:Fo prog 41 f41 zPx:=⟨func41,kr⟩
abbrev zFl:Cfg:=zm [] [(1,[(0,.st),(1,.no),(2,.no),(3,.st),(4,.st)]++nr 5 6)]
def zPJ:Fo prog 47 f47 zFl:=⟨func47,kr⟩
def zM7:Fo prog 53 f53 zPx:=⟨func53,kr⟩
def zQO:Fo prog 71 f71 zPx:=⟨func71,kr⟩
def zPU:Fo prog 77 f77 zPx:=⟨func77,kr⟩
abbrev zF8:Cfg:=zm [40,60] [(2,[(0,.st),(4,.st),(8,.st),(1,.no),(2,.no),(3,.st),(5,.no),(6,.no),(7,.st),(9,.st)]++nr 10 8),(4,[(0,.st),(1,.no),(4,.no),(2,.no),(3,.no)]++nr 5 5),(9,[(0,.st)]++nr 1 9),(13,[(0,.st),(4,.no),(11,.no),(1,.no),(2,.st),(3,.no)]++nr 5 6++nr 12 8),(14,[(0,.st)]++nr 1 7)]
def zJr:Fo prog 89 f89 zF8:=⟨func89,kr⟩
def zPb:Fo prog 95 f95 zPx:=⟨func95,kr⟩
abbrev Dt:Cfg:=zm [31] []
def zGn:Fo prog 101 f101 Dt:=⟨func101,kr⟩
def zGq:Fo prog 113 f113 zPx:=⟨func113,kr⟩
abbrev zER:Cfg:=zm [] [(9,nr 0 9++ [(14,.no)]++nr 9 5++nr 15 4)]
def zLe:Fo prog 119 f119 zER:=⟨func119,kr⟩
def zGx:Fo prog 125 f125 zPx:=⟨func125,kr⟩
abbrev CO:Cfg:=zm [] [(4,[(0,.no),(1,.no),(3,.no),(4,.st),(2,.no),(6,.no),(5,.no)]++nr 7 3)]
def zG3:Fo prog 131 f131 CO:=⟨func131,kr⟩
def zLj:Fo prog 143 f143 zPx:=⟨func143,kr⟩
def zG5:Fo prog 149 f149 zPx:=⟨func149,kr⟩
def zG8:Fo prog 155 f155 zPx:=⟨func155,kr⟩
def zHA:Fo prog 163 f163 zPx:=⟨func163,kr⟩
def zHG:Fo prog 181 f181 zEa:=⟨func181,kr⟩
def zHJ:Fo prog 187 f187 zPx:=⟨func187,kr⟩
def zHP:Fo prog 193 f193 zPx:=⟨func193,kr⟩
abbrev C3:Cfg:=zm [] [(6,nr 0 11),(11,nr 0 12)]
def zBw:Fo prog 199 f199 C3:=⟨func199,kr⟩
abbrev zEk:Cfg:=zm [] [(14,nr 0 12)]
def zBy:Fo prog 225 f225 zEk:=⟨func225,kr⟩
abbrev Mt:Cfg:=zm [] [(3,[(0,.no),(4,.no),(8,.no)]++nr 1 3++nr 5 3++nr 9 9),(4,nr 0 4++ [(7,.no)]++nr 4 3++nr 8 6)]
def zHc:Fo prog 231 f231 Mt:=⟨func231,kr⟩
abbrev zEl:Cfg:=zm [] [(10,nr 0 14),(15,nr 0 20)]
def zL8:Fo prog 237 f237 zEl:=⟨func237,kr⟩
def zHg:Fo prog 243 f243 zPx:=⟨func243,kr⟩
def zHm:Fo prog 249 f249 zPx:=⟨func249,kr⟩
def zMJ:Fo prog 276 f276 zPx:=⟨func276,kr⟩
def zHn:Fo prog 282 f282 zPx:=⟨func282,kr⟩
abbrev BO:Cfg:=zm [] [(7,nr 0 9)]
def zHr:Fo prog 288 f288 BO:=⟨func288,kr⟩
def zMX:Fo prog 313 f313 zPx:=⟨func313,kr⟩
def zHx:Fo prog 319 f319 zPx:=⟨func319,kr⟩
def zH3:Fo prog 325 f325 zPx:=⟨func325,kr⟩
def zMe:Fo prog 331 f331 zFI:=⟨func331,kr⟩
def zMj:Fo prog 337 f337 zPx:=⟨func337,kr⟩
def zMp:Fo prog 355 f355 zPx:=⟨func355,kr⟩
abbrev Mu:Cfg:=zm [] [(4,[(0,.no),(4,.no)]++nr 1 3++nr 5 6)]
def zH5:Fo prog 361 f361 Mu:=⟨func361,kr⟩
def zMy:Fo prog 392 f392 zPx:=⟨func392,kr⟩
abbrev zPw:Cfg:=zm [68] [(9,nr 0 11++ [(14,.no)]++nr 11 3++nr 15 4)]
def ok6:Fo prog 6 f6 zPw:=⟨func6,kr⟩
abbrev zEZ:Cfg:=zm [] [(4,[(0,.st)]++nr 1 5),(6,[(0,.st)]++nr 1 6)]
def zHF:Fo prog 18 f18 zEZ:=⟨func18,kr⟩
def zM3:Fo prog 42 f42 zPx:=⟨func42,kr⟩
abbrev zFm:Cfg:=zm [13] []
def zPK:Fo prog 48 f48 zFm:=⟨func48,kr⟩
abbrev zLE:Cfg:=zm [] [(4,nr 0 9),(6,nr 0 9)]
def zQD:Fo prog 54 f54 zLE:=⟨func54,kr⟩
abbrev zLG:Cfg:=zm [] [(1,nr 0 4++ [(5,.no),(6,.st),(7,.no),(8,.st),(10,.no),(11,.st),(12,.no),(13,.st),(15,.no),(16,.st),(17,.no),(18,.st),(4,.no),(9,.no),(14,.no)]++nr 19 4)]
def zQK:Fo prog 66 f66 zLG:=⟨func66,kr⟩
def zPX:Fo prog 90 f90 zPx:=⟨func90,kr⟩
def zQP:Fo prog 96 f96 zLL:=⟨func96,kr⟩
def zLf:Fo prog 120 f120 zLL:=⟨func120,kr⟩
def zGy:Fo prog 126 f126 zEv:=⟨func126,kr⟩
abbrev CP:Cfg:=zm [1] [(5,[(0,.no),(1,.st)]++nr 2 9)]
def zBu:Fo prog 132 f132 CP:=⟨func132,kr⟩
abbrev CT:Cfg:=zm [] [(1,nr 0 12)]
def zG6:Fo prog 150 f150 CT:=⟨func150,kr⟩
def zLm:Fo prog 156 f156 zEv:=⟨func156,kr⟩
def zHC:Fo prog 176 f176 zPx:=⟨func176,kr⟩
abbrev zEb:Cfg:=zm [] [(8,nr 0 7)]
def zLz:Fo prog 182 f182 zEb:=⟨func182,kr⟩
def zHK:Fo prog 188 f188 zPx:=⟨func188,kr⟩
abbrev Cy:Cfg:=zm [16] [(2,[(0,.st),(1,.no),(2,.st)]++nr 3 6)]
def zHQ:Fo prog 194 f194 Cy:=⟨func194,kr⟩
def zHU:Fo prog 200 f200 CW:=⟨func200,kr⟩
def zHX:Fo prog 226 f226 zPx:=⟨func226,kr⟩
def zHd:Fo prog 232 f232 zPx:=⟨func232,kr⟩
abbrev zEm:Cfg:=zm [] [(11,nr 0 20),(16,nr 0 12)]
def zL9:Fo prog 238 f238 zEm:=⟨func238,kr⟩
def zHh:Fo prog 244 f244 zPx:=⟨func244,kr⟩
abbrev zEp:Cfg:=zm [44] []
def zMC:Fo prog 250 f250 zEp:=⟨func250,kr⟩
def zMK:Fo prog 277 f277 zPx:=⟨func277,kr⟩
abbrev BL:Cfg:=zm [] [(1,nr 0 9),(4,[(4,.no)]++nr 0 4++nr 5 18++ [(25,.no),(23,.no),(24,.no)])]
def zHo:Fo prog 283 f283 BL:=⟨func283,kr⟩
def zHs:Fo prog 289 f289 zPx:=⟨func289,kr⟩
def zMY:Fo prog 314 f314 zPx:=⟨func314,kr⟩
def zHy:Fo prog 320 f320 zPx:=⟨func320,kr⟩
def zH4:Fo prog 326 f326 zPx:=⟨func326,kr⟩
def zBz:Fo prog 356 f356 zPx:=⟨func356,kr⟩
def zH6:Fo prog 362 f362 zPx:=⟨func362,kr⟩
def zIB:Fo prog 375 f375 zPx:=⟨func375,kr⟩
def zMu:Fo prog 381 f381 zPx:=⟨func381,kr⟩
abbrev zFc:Cfg:=zm [] [(6,[(4,.no)]++nr 0 4++ [(5,.no)]),(8,nr 0 10)]
def zMz:Fo prog 393 f393 zFc:=⟨func393,kr⟩
def zIF:Fo prog 399 f399 zPx:=⟨func399,kr⟩
def zM4:Fo prog 423 f423 zPx:=⟨func423,kr⟩
def zPE:Fo prog 13 f13 zLM:=⟨func13,kr⟩
def zPF:Fo prog 19 f19 zPx:=⟨func19,kr⟩
def zPI:Fo prog 43 f43 zPx:=⟨func43,kr⟩
abbrev zFn:Cfg:=zm [] [(9,[(0,.st),(1,.no),(2,.no),(3,.st),(4,.st)]++nr 5 6),(14,[(0,.st)]++nr 1 3++ [(4,.st),(5,.st),(6,.st)]++nr 7 6)]
def zPL:Fo prog 49 f49 zFn:=⟨func49,kr⟩
abbrev zAx:Cfg:=zm [] [(12,nr 0 5++ [(8,.no),(12,.no)]++nr 5 3++nr 9 3++nr 13 5)]
def zM8:Fo prog 73 f73 zAx:=⟨func73,kr⟩
def zM9:Fo prog 79 f79 CW:=⟨func79,kr⟩
def zPY:Fo prog 91 f91 zPx:=⟨func91,kr⟩
def zPc:Fo prog 97 f97 zPx:=⟨func97,kr⟩
def zGo:Fo prog 109 f109 zPx:=⟨func109,kr⟩
abbrev CA:Cfg:=zm [] [(14,nr 0 13)]
def zGr:Fo prog 115 f115 CA:=⟨func115,kr⟩
abbrev CD:Cfg:=zm [] [(10,nr 0 5++ [(5,.st)]++nr 6 13++ [(19,.st)]++nr 20 21)]
def zGu:Fo prog 121 f121 CD:=⟨func121,kr⟩
def zGz:Fo prog 127 f127 zPx:=⟨func127,kr⟩
abbrev zEU:Cfg:=zm [] [(3,[(2,.no),(0,.no),(1,.st)]++nr 3 6)]
def zLh:Fo prog 139 f139 zEU:=⟨func139,kr⟩
abbrev CU:Cfg:=zm [] [(3,nr 0 13)]
def zBv:Fo prog 151 f151 CU:=⟨func151,kr⟩
def zHD:Fo prog 177 f177 zPx:=⟨func177,kr⟩
def zL0:Fo prog 183 f183 zPx:=⟨func183,kr⟩
def zHL:Fo prog 189 f189 zPx:=⟨func189,kr⟩
def zL2:Fo prog 201 f201 zPx:=⟨func201,kr⟩
abbrev C5:Cfg:=zm [] [(20,nr 0 12)]
def zHV:Fo prog 207 f207 C5:=⟨func207,kr⟩
def zHY:Fo prog 227 f227 zPx:=⟨func227,kr⟩
abbrev C9:Cfg:=zm [] [(17,nr 0 15)]
abbrev zEn:Cfg:=zm [] [(11,nr 0 8),(16,nr 0 12),(18,nr 0 3++ [(9,.no)]++nr 3 6++nr 10 3)]
def zMA:Fo prog 239 f239 zEn:=⟨func239,kr⟩
def zHi:Fo prog 245 f245 zPx:=⟨func245,kr⟩
def zMD:Fo prog 251 f251 zPx:=⟨func251,kr⟩
abbrev zE0:Cfg:=zm [] [(6,nr 0 8)]
def zML:Fo prog 278 f278 zE0:=⟨func278,kr⟩
def zMP:Fo prog 284 f284 zPx:=⟨func284,kr⟩
def zHt:Fo prog 290 f290 BQ:=⟨func290,kr⟩
def zHu:Fo prog 303 f303 Cg:=⟨func303,kr⟩
def zMZ:Fo prog 315 f315 zPx:=⟨func315,kr⟩
def zHz:Fo prog 321 f321 zPx:=⟨func321,kr⟩
def zMf:Fo prog 333 f333 zPx:=⟨func333,kr⟩
def zMl:Fo prog 351 f351 zK7:=⟨func351,kr⟩
def zMq:Fo prog 357 f357 zPx:=⟨func357,kr⟩
def zH7:Fo prog 363 f363 BQ:=⟨func363,kr⟩
def zIC:Fo prog 376 f376 zPx:=⟨func376,kr⟩
def zMv:Fo prog 382 f382 zPx:=⟨func382,kr⟩
abbrev zFd:Cfg:=zm [] [(4,[(4,.no)]++nr 0 4++ [(5,.no)])]
def zM0:Fo prog 394 f394 zFd:=⟨func394,kr⟩
def zM5:Fo prog 424 f424 zFj:=⟨func424,kr⟩
abbrev zN9:Cfg:=zm [] [(4,[(0,.st),(1,.no),(2,.no),(3,.st)]++nr 4 6)]
def zLi:Fo prog 14 f14 zPx:=⟨func14,kr⟩
abbrev zEu:Cfg:=zm [17] [(7,nr 0 10)]
def zJp:Fo prog 32 f32 zPx:=⟨func32,kr⟩
abbrev zLB:Cfg:=zm [] [(7,nr 0 26),(11,nr 0 26),(15,nr 0 18),(23,nr 0 18)]
def zQA:Fo prog 44 f44 zLB:=⟨func44,kr⟩
def zPM:Fo prog 50 f50 zPx:=⟨func50,kr⟩
def zQE:Fo prog 56 f56 zPx:=⟨func56,kr⟩
def zPP:Fo prog 62 f62 zPx:=⟨func62,kr⟩
def zQM:Fo prog 68 f68 C2:=⟨func68,kr⟩
def zPR:Fo prog 74 f74 zPx:=⟨func74,kr⟩
def zJq:Fo prog 86 f86 zPx:=⟨func86,kr⟩
def zNA:Fo prog 92 f92 zPx:=⟨func92,kr⟩
def zPd:Fo prog 98 f98 zPx:=⟨func98,kr⟩
abbrev Dw:Cfg:=zm [] [(7,nr 0 12),(9,nr 0 17),(11,nr 0 21)]
def zGs:Fo prog 116 f116 zPx:=⟨func116,kr⟩
def zBt:Fo prog 122 f122 zPx:=⟨func122,kr⟩
def zG0:Fo prog 128 f128 zPx:=⟨func128,kr⟩
def zG9:Fo prog 160 f160 zPx:=⟨func160,kr⟩
def zLx:Fo prog 178 f178 zPx:=⟨func178,kr⟩
def zHH:Fo prog 184 f184 zF7:=⟨func184,kr⟩
def zHM:Fo prog 190 f190 zPx:=⟨func190,kr⟩
def zHR:Fo prog 196 f196 zFI:=⟨func196,kr⟩
def zL3:Fo prog 202 f202 zPx:=⟨func202,kr⟩
def zHW:Fo prog 208 f208 zPx:=⟨func208,kr⟩
abbrev Iw:Cfg:=zm [] [(3,[(0,.st),(4,.st),(1,.no),(2,.no),(3,.st),(5,.no),(6,.no),(7,.st),(8,.no),(9,.st),(10,.no),(11,.no),(12,.st),(13,.st)]++nr 14 6)]
def zHZ:Fo prog 228 f228 Iw:=⟨func228,kr⟩
abbrev zEo:Cfg:=zm [] [(4,nr 0 9++ [(15,.no)]++nr 9 6++nr 16 4)]
def zMB:Fo prog 240 f240 zEo:=⟨func240,kr⟩
def zHj:Fo prog 246 f246 zPx:=⟨func246,kr⟩
abbrev zEr:Cfg:=zm [24] []
def zME:Fo prog 252 f252 zEr:=⟨func252,kr⟩
abbrev zE1:Cfg:=zm [76] [(14,nr 0 32),(19,nr 0 15),(21,nr 0 18)]
def zMM:Fo prog 279 f279 zE1:=⟨func279,kr⟩
def zHp:Fo prog 285 f285 zPx:=⟨func285,kr⟩
def zMR:Fo prog 291 f291 zPx:=⟨func291,kr⟩
abbrev zFC:Cfg:=zm [] [(6,nr 0 20)]
def zMa:Fo prog 316 f316 zFC:=⟨func316,kr⟩
def zH0:Fo prog 322 f322 zPx:=⟨func322,kr⟩
def zMb:Fo prog 328 f328 zPx:=⟨func328,kr⟩
def zMg:Fo prog 334 f334 zPx:=⟨func334,kr⟩
def zMm:Fo prog 352 f352 zPx:=⟨func352,kr⟩
def zMr:Fo prog 358 f358 zPx:=⟨func358,kr⟩
def zH8:Fo prog 364 f364 zPx:=⟨func364,kr⟩
def zID:Fo prog 377 f377 zPx:=⟨func377,kr⟩
def zMw:Fo prog 383 f383 zPx:=⟨func383,kr⟩
def zM1:Fo prog 395 f395 zPx:=⟨func395,kr⟩
def zIG:Fo prog 430 f430 zFj:=⟨func430,kr⟩
abbrev so:=List (Nat× (List D×D))
def Hb:so->Nat->List D->Option D
 | [],_,_=>none
 |(k,x)::l,g,args=>match Nat.beq k g with
  |true=>match Eg x.1 args with
   |true=>some x.2
   |false=>Hb l g args
  |false=>Hb l g args
def zGM(lib:FuncId->List D->(Nat->Option Obj)->FR)(m:so)(g:FuncId)(args:List D)(hp:Nat->Option Obj):FR:=
 match lib g args hp with
 |some d=>some d
 |none=>T5 (Hb m g args)
def Fe(P:Program)(lib:FuncId->List D->(Nat->Option Obj)->FR):Prop:=∀g args (h:Heap) r,lib g args h.at'=some r->zE P g args h λa b=>a=r.1/\b=zJ8 r.2 h
def cJ(P:Program):so->Prop
 | []=>True
 |(k,x)::l=>(∀h,zE P k x.1 h λa b=>a=x.2/\b=h)/\cJ P l
variable{P:Program}{args ds:List D}{h:Heap}{f:FuncId}{d:D}{M:Imm}{ρ:Ren}{va:Array Value}{s:List UInt8}
theorem Tf:∀{m:so},cJ P m->∀g args h d,Hb m g args=some d->zE P g args h λa b=>a=d/\b=h
 | [],_,_,_,_,_,c=>by cases c
 |(k,x)::l,e,g,args,h,d,c=>by
  simp only[Hb]at c;split at c
  .rename_i i
   split at c
   .rename_i f
    cases c;rw[<-yZ i,<-Zg _ _ f];exact e.1 h
   .exact Tf e.2 g args h d c
  .exact Tf e.2 g args h d c
def zA9{b:FuncId->List D->(Nat->Option Obj)->FR}{m:so}(e:Fe P b)(f:cJ P m):Fe P (zGM b m):=λg args h r a=>by
 unfold zGM at a;split at a
 .rename_i i c
  cases a;exact e g args h _ c
 .unfold T5 at a
  split at a
  .rename_i d c
   cases a;exact Tf f g args h d c
  .cases a
def aY{g:FuncId}{o:Option D}{r:D×Option (Nat×Obj)}(hr:T5 o=some r)(c:∀d,o=some d->zE P g args h λa b=>a=d/\b=h):zE P g args h λa b=>a=r.1/\b=zJ8 r.2 h:=by
 unfold T5 at hr;split at hr
 .rename_i d
  cases hr;exact c d rfl
 .cases hr
def cJ.add(e:P.follows .mixedOrders=true){tab:List (Nat× (Func×Cfg))}(g:ZV P tab){j:FuncId->Bool}{i:FuncId->List D->(Nat->Option Obj)->FR}(p:Fe P i){m:so}(l:cJ P m)
  {fuel k:Nat} (n:om args=true) (o:gz d=true)
  (q:(Dg P tab j (zGM i m) fuel k [] (.fn (.func f) [] []) args HT.emp).map (λr=>fg r.1 r.2.heap)=some d):cJ P ((f,(args,d))::m):=
 ⟨λh=>(zE.of_run e g (zA9 p l) n o q h).mono λa b c=>⟨c.2,c.1⟩,l⟩
open Go.RowKit (Below)
def zE.of_lib(l:pU P f=true)
  (k:∀(M:Imm)(ρ:Ren)(c:Array Value)(w:World),wI M ρ ds c.toList->Calls P f c w λe i=>∃v,e=.returned v/\Bel w.heap.size w i/\∀(M':Imm)(q:Ren),rel M' q d v) (h:Heap):
  zE P f ds h λa b=>a=d/\b=h:=by
 refine⟨l,λw0 G M ρ w c m o g hr=>(k M ρ c w hr).mono λe i n=> ?_⟩;obtain⟨v,rfl,j,p⟩:=n;exact⟨v,M,ρ,d,h,rfl,MLe.refl _,RLe.refl _,o.world j,g,p M ρ,rfl,rfl⟩
def T9{s t:List UInt8}(hr:wI M ρ [.str s,.str t] va.toList):∃b c:ByteArray,va= #[.string b,.string c]/\b.data.toList=s/\c.data.toList=t/\s.length<=lim/\t.length<=lim:=by
 simp only[wI,rel]at hr;obtain⟨v,vs,e,⟨b,rfl,h1,d⟩,h,g,a,⟨c,rfl,h3,f⟩,rfl⟩:=hr;subst a;exact⟨b,c,sY (by simpa using e),h1,h3,d,f⟩
def zC6(n:Int):Option D:=if IntKind.i64.wrap n==n then some (.int .i64 n)else none
def LF{n:Int}(h:zC6 n=some d)(M:Imm)(ρ:Ren):rel M ρ d (.int .i64 n):=by
 unfold zC6 at h;split at h
 .rename_i a
  cases h;exact uJ (show fits _ _ from by unfold fits;simpa using a)
 .cases h
def zJ7(s:List UInt8):Option D:=if decide (s.length<=lim)then some (.str s)else none
def DV(h:zJ7 s=some d)(M:Imm)(ρ:Ren):rel M ρ d (.string ⟨s.toArray⟩):=by
 unfold zJ7 at h;split at h
 .rename_i a
  cases h;simp only[rel];exact⟨_,rfl,jS,by simpa using a⟩
 .cases h
def aP:List D->Option D
 | [.str s,.str t]=>match t with
  | [c]=>zC6 (Lib.indexByte s c)
  |_=>none
 |_=>none
def XE:List D->Option D
 | [.str s,.str t]=>match t with
  | [c]=>zC6 (Lib.countByte s c)
  |_=>none
 |_=>none
def Td:List D->Option D
 | [.str s,.str c]=>if Nat.ble 2 c.length&&c.all (λb=>decide (b.toNat<128))&&Nat.blt c.length 4294967281 then zJ7 (Lib.trimS s c)else none
 |_=>none
def Ru{b:ByteArray}{c:UInt8}(h:b.data.toList= [c]):b= ⟨#[c]⟩:=by
 cases b with
 |mk a=>
  have:a= #[c]:=sY (by simpa using h);rw[this]
def bI(m:pU P f=true)(l:∀(s:ByteArray)(c:UInt8)(w:World),Calls P f #[.string s,.string ⟨#[c]⟩] w λe i=>e=.returned (.int .i64 (Lib.indexByte s.data.toList c))/\i=w)(g:aP args=some d)(h:Heap):zE P f args h λa b=>a=d/\b=h:=by
 unfold aP at g;split at g
 .rename_i s t
  split at g
  .rename_i c
   refine zE.of_lib m (λM ρ q w hr=> ?_) h;obtain⟨j,p,rfl,rfl,k,_,_⟩:=T9 hr;rw[Ru k];refine(l j c w).mono λe i n=> ?_;obtain⟨rfl,rfl⟩:=n;exact⟨_,rfl,Bel.refl _ _,λM' o=>LF g M' o⟩
  .cases g
 .cases g
def WO(m:pU P f=true)(l:∀(s:ByteArray)(c:UInt8)(w:World),Calls P f #[.string s,.string ⟨#[c]⟩] w λe i=>e=.returned (.int .i64 (Lib.countByte s.data.toList c))/\i=w)(g:XE args=some d)(h:Heap):zE P f args h λa b=>a=d/\b=h:=by
 unfold XE at g;split at g
 .rename_i s t
  split at g
  .rename_i c
   refine zE.of_lib m (λM ρ q w hr=> ?_) h;obtain⟨j,p,rfl,rfl,k,_,_⟩:=T9 hr;rw[Ru k];refine(l j c w).mono λe i n=> ?_;obtain⟨rfl,rfl⟩:=n;exact⟨_,rfl,Bel.refl _ _,λM' o=>LF g M' o⟩
  .cases g
 .cases g
def KH{ρ:Go.Shelf.Ren}(L:Go.Proofs.Lays.n160 P ρ)(d:(P.info? (ρ.t 116)).map (λi=>(i.zero,i.size))=some (some (.agg (Array.replicate 256 (.bool false))),256))(s a:ByteArray)(w:World)(g:2<=a.size)(n:s.size<=9223372036854775807)(k:a.size<4294967281)
  (c:∀(j:Nat) b,a.data.toList[j]? =some b->b.toNat<128):
  Calls P (ρ.f 160) #[.string s,.string a] w λe l=>e=.returned (.string ⟨(Lib.trimS s.data.toList a.data.toList).toArray⟩)/\Bel w.heap.size w l:=by
 by_cases h:s.size=0
 .refine(Go.Proofs.Any.strings_Trim_empty L s a w (.inl h)).mono λe l ⟨h1,g⟩=>⟨?_,g▸Bel.refl _ _⟩
  have m:s.data.toList= []:=ye (by rw[<-Lib.size_eq];exact h);rw[h1,m];congr 2;rw[<-Lib.mk_data s,m];rfl
 .refine(Go.Proofs.Any.strings_Trim_set L (Go.zero_of_info d).1 (Go.zero_of_info d).2 s a w g ow n k c).mono λe l ⟨h1,g⟩=>⟨h1,?_⟩
  obtain⟨q,rfl⟩:=g;exact⟨(((Below.refl _ _).alloc (zD _) _).alloc jS _).trans ⟨rfl,rfl,rfl,zD _,λ_ _=>rfl⟩,Nat.le_add_right _ _⟩
def UE{P : Program}{f : FuncId}(q : pU P f = true)(p : ∀(s c : ByteArray)(w : World), 2 <= c.size -> s.size <= 9223372036854775807 -> c.size < 4294967281 -> (∀(j : Nat) b, c.data.toList[j]? = some b -> b.toNat < 128) ->
      Calls P f #[.string s,.string c] w λe n => e =.returned (.string ⟨(Lib.trimS s.data.toList c.data.toList).toArray⟩) /\ Bel w.heap.size w n)
    {args : List D} {d : D} (i : Td args = some d) (h : Heap) : zE P f args h λa b => a = d /\ b = h := by
  unfold Td at i;split at i
  · rename_i s c
    split at i
    · rename_i g
      simp only [zF]at g;have m : c.length < 4294967281 := by rw [<- kp]; exact g.2
      refine zE.of_lib q (λM ρ u w hr => ?_) h;obtain ⟨k, l, rfl, rfl, rfl, h3, _⟩ := T9 hr;have e1 : k.size = k.data.toList.length := by rw [yX]; rfl
      have e2 : l.size = l.data.toList.length := by rw [yX]; rfl
      refine (p k l w (by rw [e2]; exact by have := g.1.1; rwa [Nat.ble_eq]at this) (by rw [e1]; unfold lim at h3; omega) (by rw [e2]; exact m) (Go.Proofs.ascii_of_all g.1.2)).mono λe n r => ?_;obtain ⟨rfl, o⟩ := r;exact ⟨_, rfl, o, λM' t => DV i M' t⟩
    · cases i
  · cases i
end Go.V
end
