/- How functions of this program are read by the machine, part 1. No condition. -/
import Derived.Test.YtkenagjlanhnmaaGreatDoorW03
import Derived.KernelRfl
import Derived.Test.YtkenagjlanhnmaaGreatDoorProg
import Derived.Shelf.Strings.Search1
import Derived.Shelf.Strings.Count
import Derived.Shelf.Strings.SlTrimAscii
set_option linter.all false
set_option maxHeartbeats 8000000
noncomputable section
namespace Go.V
open Go.Proofs.Tryz
open Go.Proofs
abbrev zOL:Cfg:=zi [] []
abbrev zDC:Cfg:=zi [] [(6,nr 0 9)]
abbrev Eh:Cfg:=zi [7] []
abbrev Es:Cfg:=zi [] [(4,nr 0 17),(6,nr 0 18)]
abbrev zEN:Cfg:=zi [] [(3,[(0,.st)]++nr 1 3)]
abbrev zCr:Cfg:=zi [] [(4,nr 0 10)]
abbrev DJ:Cfg:=zi [] [(1,nr 0 4++ [(5,.no),(6,.st),(7,.no),(8,.st),(4,.no)]++nr 9 4)]
abbrev zDY:Cfg:=zi [] [(6,nr 0 10),(11,nr 0 10)]
abbrev zJl:Cfg:=zi [] [(10,nr 0 12)]
abbrev Dh:Cfg:=zi [] [(1,[(2,.no),(6,.no),(0,.no),(1,.no)]++nr 3 3++nr 7 5)]
abbrev zDz:Cfg:=zi [] [(4,nr 0 6)]
def ok9:Fo prog 9 f9 zOL:=⟨func9,kr⟩
def zNe:Fo prog 33 f33 zOL:=⟨func33,kr⟩
def zOb:Fo prog 45 f45 zOL:=⟨func45,kr⟩
def zNi:Fo prog 51 f51 zOL:=⟨func51,kr⟩
def zNl:Fo prog 69 f69 zOL:=⟨func69,kr⟩
abbrev zEI:Cfg:=zi [] [(10,nr 0 11),(16,nr 0 8)]
def zNn:Fo prog 75 f75 zEI:=⟨func75,kr⟩
def zNq:Fo prog 87 f87 zOL:=⟨func87,kr⟩
abbrev zES:Cfg:=zi [5] [(1,[(0,.no),(1,.no),(3,.no),(4,.st),(2,.no),(6,.no),(5,.no)]++nr 7 3),(3,[(0,.no),(1,.st)]++nr 2 14),(4,nr 0 20)]
def zNu:Fo prog 93 f93 zES:=⟨func93,kr⟩
abbrev zCi:Cfg:=zi [] [(9,nr 0 25)]
def zJ0:Fo prog 117 f117 zCi:=⟨func117,kr⟩
def zFF:Fo prog 123 f123 zOL:=⟨func123,kr⟩
def zFL:Fo prog 129 f129 zOL:=⟨func129,kr⟩
def zFR:Fo prog 153 f153 Eh:=⟨func153,kr⟩
abbrev El:Cfg:=zi [] [(4,nr 0 5)]
def zFV:Fo prog 173 f173 zOL:=⟨func173,kr⟩
def zFY:Fo prog 179 f179 zOL:=⟨func179,kr⟩
abbrev E7:Cfg:=zi [] [(7,[(0,.st),(2,.no),(3,.no),(1,.no)]++nr 4 6)]
def FD:Fo prog 185 f185 E7:=⟨func185,kr⟩
def zFg:Fo prog 191 f191 zOL:=⟨func191,kr⟩
def zFl:Fo prog 197 f197 zOL:=⟨func197,kr⟩
def FE:Fo prog 209 f209 zOL:=⟨func209,kr⟩
abbrev zCz:Cfg:=zi [] [(14,[(0,.st),(1,.no),(2,.st),(3,.no),(4,.no),(5,.st),(6,.sq)]++nr 7 6),(20,nr 0 12)]
def zAK:Fo prog 223 f223 zCz:=⟨func223,kr⟩
abbrev Nh:Cfg:=zi [] [(6,nr 0 19)]
def zFt:Fo prog 229 f229 Nh:=⟨func229,kr⟩
abbrev DS:Cfg:=zi [] [(17,nr 0 17)]
def zFy:Fo prog 235 f235 DS:=⟨func235,kr⟩
def zF4:Fo prog 247 f247 zOL:=⟨func247,kr⟩
def zKb:Fo prog 253 f253 zOL:=⟨func253,kr⟩
def zKj:Fo prog 280 f280 zOL:=⟨func280,kr⟩
def zGA:Fo prog 286 f286 zOL:=⟨func286,kr⟩
abbrev Di:Cfg:=zi [] [(4,nr 0 15),(6,nr 0 18)]
def zKr:Fo prog 311 f311 zOL:=⟨func311,kr⟩
def zGF:Fo prog 317 f317 zOL:=⟨func317,kr⟩
def zGL:Fo prog 323 f323 zOL:=⟨func323,kr⟩
def zKy:Fo prog 329 f329 zOL:=⟨func329,kr⟩
def zK3:Fo prog 335 f335 zOL:=⟨func335,kr⟩
def zK9:Fo prog 353 f353 zOL:=⟨func353,kr⟩
def zLE:Fo prog 359 f359 zOL:=⟨func359,kr⟩
def zGT:Fo prog 365 f365 zOL:=⟨func365,kr⟩
def zLJ:Fo prog 384 f384 zOL:=⟨func384,kr⟩
def zGY:Fo prog 396 f396 zOL:=⟨func396,kr⟩
def zGb:Fo prog 431 f431 zOL:=⟨func431,kr⟩
def zJr:Fo prog 10 f10 zOL:=⟨func10,kr⟩
def zOW:Fo prog 28 f28 zOL:=⟨func28,kr⟩
def zK6:Fo prog 34 f34 zOL:=⟨func34,kr⟩
def zLO:Fo prog 40 f40 zOL:=⟨func40,kr⟩
def zOc:Fo prog 46 f46 zOL:=⟨func46,kr⟩
def zNj:Fo prog 58 f58 zOL:=⟨func58,kr⟩
def zOq:Fo prog 70 f70 zOL:=⟨func70,kr⟩
def zNo:Fo prog 76 f76 zOL:=⟨func76,kr⟩
def zNr:Fo prog 88 f88 zEN:=⟨func88,kr⟩
abbrev zET:Cfg:=zi [] [(1,nr 0 3++ [(3,.st)]++nr 4 5++ [(9,.st)]++nr 10 5)]
def zNv:Fo prog 94 f94 zET:=⟨func94,kr⟩
abbrev ED:Cfg:=zi [] [(3,[(0,.no),(1,.no),(2,.st),(4,.no),(5,.no),(6,.st),(9,.no),(10,.no),(11,.st),(14,.no),(15,.no),(16,.st),(3,.st),(7,.st),(8,.st),(12,.st),(13,.st),(17,.st)]++nr 18 3),(6,nr 0 7),(7,[(6,.no)]++nr 0 6++nr 7 6)]
def zE9:Fo prog 112 f112 zOL:=⟨func112,kr⟩
abbrev EO:Cfg:=zi [] [(16,nr 0 8++ [(13,.no)]++nr 8 5++nr 14 4)]
def zFD:Fo prog 118 f118 EO:=⟨func118,kr⟩
def zFG:Fo prog 124 f124 zOL:=⟨func124,kr⟩
def zFM:Fo prog 130 f130 zOL:=⟨func130,kr⟩
def zFO:Fo prog 148 f148 zOL:=⟨func148,kr⟩
abbrev zCo:Cfg:=zi [] [(11,nr 0 19)]
def zJ8:Fo prog 154 f154 zCo:=⟨func154,kr⟩
def zKK:Fo prog 180 f180 zCr:=⟨func180,kr⟩
def zFb:Fo prog 186 f186 zOL:=⟨func186,kr⟩
def zFh:Fo prog 192 f192 zOL:=⟨func192,kr⟩
def zFm:Fo prog 198 f198 DJ:=⟨func198,kr⟩
def zKR:Fo prog 224 f224 zOL:=⟨func224,kr⟩
abbrev Ni:Cfg:=zi [] [(3,nr 0 10),(6,[(0,.no),(9,.no)]++nr 1 8++nr 10 10),(7,nr 0 34),(8,[(0,.no),(1,.no),(8,.no)]++nr 2 6++nr 9 7)]
def zFu:Fo prog 230 f230 Ni:=⟨func230,kr⟩
def zFz:Fo prog 236 f236 zOL:=⟨func236,kr⟩
def zF5:Fo prog 248 f248 zOL:=⟨func248,kr⟩
def zKc:Fo prog 254 f254 zOL:=⟨func254,kr⟩
abbrev zDD:Cfg:=zi [] [(1,nr 0 20)]
def zKe:Fo prog 275 f275 zDD:=⟨func275,kr⟩
abbrev zDJ:Cfg:=zi [] [(8,nr 0 13)]
def zKk:Fo prog 281 f281 zDJ:=⟨func281,kr⟩
abbrev zDL:Cfg:=zi [] [(1,[(2,.no),(0,.no),(1,.no)]++nr 3 10)]
def zKm:Fo prog 287 f287 zDL:=⟨func287,kr⟩
def zKs:Fo prog 312 f312 zOL:=⟨func312,kr⟩
def zGG:Fo prog 318 f318 zOL:=⟨func318,kr⟩
def zGM:Fo prog 324 f324 zOL:=⟨func324,kr⟩
def zKz:Fo prog 330 f330 DJ:=⟨func330,kr⟩
abbrev Dv:Cfg:=zi [2] []
def zK4:Fo prog 336 f336 Dv:=⟨func336,kr⟩
def zLA:Fo prog 354 f354 zOL:=⟨func354,kr⟩
abbrev zDm:Cfg:=zi [] [(8,nr 0 9),(10,nr 0 9)]
def zLF:Fo prog 360 f360 zDm:=⟨func360,kr⟩
def zGU:Fo prog 366 f366 zOL:=⟨func366,kr⟩
abbrev zCh:Cfg:=zi [] [(10,[(0,.st),(7,.st)]++nr 1 6++nr 8 6)]
def zIE:Fo prog 11 f11 zCh:=⟨func11,kr⟩
abbrev zJW:Cfg:=zi [] [(7,nr 0 14),(14,[(1,.no),(0,.no)]++nr 2 8)]
def zOQ:Fo prog 17 f17 zJW:=⟨func17,kr⟩
def zOX:Fo prog 29 f29 zOL:=⟨func29,kr⟩
def zOZ:Fo prog 35 f35 zOL:=⟨func35,kr⟩
def zNf:Fo prog 41 f41 zOL:=⟨func41,kr⟩
abbrev zD1:Cfg:=zi [] [(1,[(0,.st),(1,.no),(2,.no),(3,.st),(4,.st)]++nr 5 6)]
def zOr:Fo prog 71 f71 zOL:=⟨func71,kr⟩
def zNp:Fo prog 77 f77 zOL:=⟨func77,kr⟩
abbrev zEO:Cfg:=zi [40,60] [(2,[(0,.st),(4,.st),(8,.st),(1,.no),(2,.no),(3,.st),(5,.no),(6,.no),(7,.st),(9,.st)]++nr 10 8),(4,[(0,.st),(1,.no),(4,.no),(2,.no),(3,.no)]++nr 5 5),(9,[(0,.st)]++nr 1 9),(13,[(0,.st),(4,.no),(11,.no),(1,.no),(2,.st),(3,.no)]++nr 5 6++nr 12 8),(14,[(0,.st)]++nr 1 7)]
def zIG:Fo prog 89 f89 zEO:=⟨func89,kr⟩
def zNw:Fo prog 95 f95 zOL:=⟨func95,kr⟩
abbrev F9:Cfg:=zi [31] []
def zE7:Fo prog 101 f101 F9:=⟨func101,kr⟩
def zFA:Fo prog 113 f113 zOL:=⟨func113,kr⟩
abbrev zCj:Cfg:=zi [] [(9,nr 0 9++ [(14,.no)]++nr 9 5++nr 15 4)]
def zJ1:Fo prog 119 f119 zCj:=⟨func119,kr⟩
def zFH:Fo prog 125 f125 zOL:=⟨func125,kr⟩
abbrev EZ:Cfg:=zi [] [(4,[(0,.no),(1,.no),(3,.no),(4,.st),(2,.no),(6,.no),(5,.no)]++nr 7 3)]
def zFN:Fo prog 131 f131 EZ:=⟨func131,kr⟩
def zJ6:Fo prog 143 f143 zOL:=⟨func143,kr⟩
def zFP:Fo prog 149 f149 zOL:=⟨func149,kr⟩
def zFS:Fo prog 155 f155 zOL:=⟨func155,kr⟩
def zFU:Fo prog 163 f163 zOL:=⟨func163,kr⟩
def zFZ:Fo prog 181 f181 zCr:=⟨func181,kr⟩
def zFc:Fo prog 187 f187 zOL:=⟨func187,kr⟩
def zFi:Fo prog 193 f193 zOL:=⟨func193,kr⟩
abbrev DK:Cfg:=zi [] [(6,nr 0 11),(11,nr 0 12)]
def zAJ:Fo prog 199 f199 DK:=⟨func199,kr⟩
abbrev zC1:Cfg:=zi [] [(14,nr 0 12)]
def zAL:Fo prog 225 f225 zC1:=⟨func225,kr⟩
abbrev Nj:Cfg:=zi [] [(3,[(0,.no),(4,.no),(8,.no)]++nr 1 3++nr 5 3++nr 9 9),(4,nr 0 4++ [(7,.no)]++nr 4 3++nr 8 6)]
def zFw:Fo prog 231 f231 Nj:=⟨func231,kr⟩
abbrev zC2:Cfg:=zi [] [(10,nr 0 14),(15,nr 0 20)]
def zKU:Fo prog 237 f237 zC2:=⟨func237,kr⟩
def zF0:Fo prog 243 f243 zOL:=⟨func243,kr⟩
def zF6:Fo prog 249 f249 zOL:=⟨func249,kr⟩
def zKf:Fo prog 276 f276 zOL:=⟨func276,kr⟩
def zF7:Fo prog 282 f282 zOL:=⟨func282,kr⟩
abbrev Df:Cfg:=zi [] [(7,nr 0 9)]
def zGB:Fo prog 288 f288 Df:=⟨func288,kr⟩
def zKt:Fo prog 313 f313 zOL:=⟨func313,kr⟩
def zGH:Fo prog 319 f319 zOL:=⟨func319,kr⟩
def zGN:Fo prog 325 f325 zOL:=⟨func325,kr⟩
def zK0:Fo prog 331 f331 zDY:=⟨func331,kr⟩
def zK5:Fo prog 337 f337 zOL:=⟨func337,kr⟩
def zLB:Fo prog 355 f355 zOL:=⟨func355,kr⟩
abbrev Nk:Cfg:=zi [] [(4,[(0,.no),(4,.no)]++nr 1 3++nr 5 6)]
def zGP:Fo prog 361 f361 Nk:=⟨func361,kr⟩
def zLK:Fo prog 392 f392 zOL:=⟨func392,kr⟩
abbrev zCq:Cfg:=zi [] [(4,[(0,.st)]++nr 1 5),(6,[(0,.st)]++nr 1 6)]
def zNd:Fo prog 30 f30 zOL:=⟨func30,kr⟩
def zLP:Fo prog 42 f42 zOL:=⟨func42,kr⟩
abbrev zD2:Cfg:=zi [13] []
abbrev zJf:Cfg:=zi [] [(1,nr 0 4++ [(5,.no),(6,.st),(7,.no),(8,.st),(10,.no),(11,.st),(12,.no),(13,.st),(15,.no),(16,.st),(17,.no),(18,.st),(4,.no),(9,.no),(14,.no)]++nr 19 4)]
def zOn:Fo prog 66 f66 zJf:=⟨func66,kr⟩
abbrev zJj:Cfg:=zi [] [(12,nr 0 23)]
def zOs:Fo prog 72 f72 zJj:=⟨func72,kr⟩
def zNs:Fo prog 90 f90 zOL:=⟨func90,kr⟩
def zOt:Fo prog 96 f96 zJl:=⟨func96,kr⟩
def zJ2:Fo prog 120 f120 zJl:=⟨func120,kr⟩
def zFI:Fo prog 126 f126 zDC:=⟨func126,kr⟩
abbrev Ea:Cfg:=zi [1] [(5,[(0,.no),(1,.st)]++nr 2 9)]
def zAH:Fo prog 132 f132 Ea:=⟨func132,kr⟩
abbrev Ee:Cfg:=zi [] [(1,nr 0 12)]
def zFQ:Fo prog 150 f150 Ee:=⟨func150,kr⟩
def zFW:Fo prog 176 f176 zOL:=⟨func176,kr⟩
abbrev zCs:Cfg:=zi [] [(8,nr 0 7)]
def zKL:Fo prog 182 f182 zCs:=⟨func182,kr⟩
def zFd:Fo prog 188 f188 zOL:=⟨func188,kr⟩
abbrev DF:Cfg:=zi [16] [(2,[(0,.st),(1,.no),(2,.st)]++nr 3 6)]
def zFj:Fo prog 194 f194 DF:=⟨func194,kr⟩
def zFn:Fo prog 200 f200 Eh:=⟨func200,kr⟩
def zFq:Fo prog 226 f226 zOL:=⟨func226,kr⟩
def zFx:Fo prog 232 f232 zOL:=⟨func232,kr⟩
abbrev zC3:Cfg:=zi [] [(11,nr 0 20),(16,nr 0 12)]
def zKV:Fo prog 238 f238 zC3:=⟨func238,kr⟩
def zF1:Fo prog 244 f244 zOL:=⟨func244,kr⟩
abbrev zC6:Cfg:=zi [44] []
def zKY:Fo prog 250 f250 zC6:=⟨func250,kr⟩
def zKg:Fo prog 277 f277 zOL:=⟨func277,kr⟩
abbrev Dc:Cfg:=zi [] [(1,nr 0 9),(4,[(4,.no)]++nr 0 4++nr 5 18++ [(25,.no),(23,.no),(24,.no)])]
def zF8:Fo prog 283 f283 Dc:=⟨func283,kr⟩
def zGC:Fo prog 289 f289 zOL:=⟨func289,kr⟩
def zKu:Fo prog 314 f314 zOL:=⟨func314,kr⟩
def zGI:Fo prog 320 f320 zOL:=⟨func320,kr⟩
def zGO:Fo prog 326 f326 zOL:=⟨func326,kr⟩
def zAM:Fo prog 356 f356 zOL:=⟨func356,kr⟩
def zGQ:Fo prog 362 f362 zOL:=⟨func362,kr⟩
def zGV:Fo prog 375 f375 zOL:=⟨func375,kr⟩
def zLG:Fo prog 381 f381 zOL:=⟨func381,kr⟩
abbrev zDs:Cfg:=zi [] [(6,[(4,.no)]++nr 0 4++ [(5,.no)]),(8,nr 0 10)]
def zLL:Fo prog 393 f393 zDs:=⟨func393,kr⟩
def zGZ:Fo prog 399 f399 zOL:=⟨func399,kr⟩
def zLQ:Fo prog 423 f423 zOL:=⟨func423,kr⟩
abbrev zCl:Cfg:=zi [] [(6,nr 0 10)]
def zNb:Fo prog 13 f13 zCl:=⟨func13,kr⟩
def zNc:Fo prog 19 f19 zOL:=⟨func19,kr⟩
def zOY:Fo prog 31 f31 zOL:=⟨func31,kr⟩
def zNg:Fo prog 43 f43 zOL:=⟨func43,kr⟩
abbrev zD3:Cfg:=zi [] [(9,[(0,.st),(1,.no),(2,.no),(3,.st),(4,.st)]++nr 5 6),(14,[(0,.st)]++nr 1 3++ [(4,.st),(5,.st),(6,.st)]++nr 7 6)]
abbrev AK:Cfg:=zi [] [(12,nr 0 5++ [(8,.no),(12,.no)]++nr 5 3++nr 9 3++nr 13 5)]
def zLS:Fo prog 73 f73 AK:=⟨func73,kr⟩
def zLT:Fo prog 79 f79 Eh:=⟨func79,kr⟩
def zNt:Fo prog 91 f91 zOL:=⟨func91,kr⟩
def zNx:Fo prog 97 f97 zOL:=⟨func97,kr⟩
def zE8:Fo prog 109 f109 zOL:=⟨func109,kr⟩
abbrev EM:Cfg:=zi [] [(14,nr 0 13)]
def zFB:Fo prog 115 f115 EM:=⟨func115,kr⟩
abbrev EP:Cfg:=zi [] [(10,nr 0 5++ [(5,.st)]++nr 6 13++ [(19,.st)]++nr 20 21)]
def zFE:Fo prog 121 f121 EP:=⟨func121,kr⟩
def zFJ:Fo prog 127 f127 zOL:=⟨func127,kr⟩
abbrev zCm:Cfg:=zi [] [(3,[(2,.no),(0,.no),(1,.st)]++nr 3 6)]
def zJ4:Fo prog 139 f139 zCm:=⟨func139,kr⟩
abbrev Ef:Cfg:=zi [] [(3,nr 0 13)]
def zAI:Fo prog 151 f151 Ef:=⟨func151,kr⟩
def zFX:Fo prog 177 f177 zOL:=⟨func177,kr⟩
def zKM:Fo prog 183 f183 zOL:=⟨func183,kr⟩
def zFe:Fo prog 189 f189 zOL:=⟨func189,kr⟩
def zKO:Fo prog 201 f201 zOL:=⟨func201,kr⟩
abbrev DM:Cfg:=zi [] [(20,nr 0 12)]
def zFo:Fo prog 207 f207 DM:=⟨func207,kr⟩
def zFr:Fo prog 227 f227 zOL:=⟨func227,kr⟩
abbrev DQ:Cfg:=zi [] [(17,nr 0 15)]
abbrev zC4:Cfg:=zi [] [(11,nr 0 8),(16,nr 0 12),(18,nr 0 3++ [(9,.no)]++nr 3 6++nr 10 3)]
def zKW:Fo prog 239 f239 zC4:=⟨func239,kr⟩
def zF2:Fo prog 245 f245 zOL:=⟨func245,kr⟩
def zKZ:Fo prog 251 f251 zOL:=⟨func251,kr⟩
abbrev zDG:Cfg:=zi [] [(6,nr 0 8)]
def zKh:Fo prog 278 f278 zDG:=⟨func278,kr⟩
def zKl:Fo prog 284 f284 zOL:=⟨func284,kr⟩
def zGD:Fo prog 290 f290 Dh:=⟨func290,kr⟩
def zGE:Fo prog 303 f303 Es:=⟨func303,kr⟩
def zKv:Fo prog 315 f315 zOL:=⟨func315,kr⟩
def zGJ:Fo prog 321 f321 zOL:=⟨func321,kr⟩
def zK1:Fo prog 333 f333 zOL:=⟨func333,kr⟩
abbrev zDd:Cfg:=zi [] [(6,nr 0 12)]
def zK7:Fo prog 351 f351 zDd:=⟨func351,kr⟩
def zLC:Fo prog 357 f357 zOL:=⟨func357,kr⟩
def zGR:Fo prog 363 f363 Dh:=⟨func363,kr⟩
def zGW:Fo prog 376 f376 zOL:=⟨func376,kr⟩
def zLH:Fo prog 382 f382 zOL:=⟨func382,kr⟩
abbrev zDt:Cfg:=zi [] [(4,[(4,.no)]++nr 0 4++ [(5,.no)])]
def zLM:Fo prog 394 f394 zDt:=⟨func394,kr⟩
def zLR:Fo prog 424 f424 zDz:=⟨func424,kr⟩
abbrev zMV:Cfg:=zi [] [(4,[(0,.st),(1,.no),(2,.no),(3,.st)]++nr 4 6)]
def zJ5:Fo prog 14 f14 zOL:=⟨func14,kr⟩
abbrev zDB:Cfg:=zi [17] [(7,nr 0 10)]
def zIF:Fo prog 32 f32 zOL:=⟨func32,kr⟩
abbrev zJc:Cfg:=zi [] [(7,nr 0 26),(11,nr 0 26),(15,nr 0 18),(23,nr 0 18)]
def zOa:Fo prog 44 f44 zJc:=⟨func44,kr⟩
def zNh:Fo prog 50 f50 zOL:=⟨func50,kr⟩
def zNk:Fo prog 62 f62 zOL:=⟨func62,kr⟩
def zOp:Fo prog 68 f68 DJ:=⟨func68,kr⟩
def zNm:Fo prog 74 f74 zOL:=⟨func74,kr⟩
def zLU:Fo prog 86 f86 zOL:=⟨func86,kr⟩
def zLV:Fo prog 92 f92 zOL:=⟨func92,kr⟩
def zNy:Fo prog 98 f98 zOL:=⟨func98,kr⟩
abbrev EC:Cfg:=zi [] [(7,nr 0 12),(9,nr 0 17),(11,nr 0 21)]
def zFC:Fo prog 116 f116 zOL:=⟨func116,kr⟩
def zAG:Fo prog 122 f122 zOL:=⟨func122,kr⟩
def zFK:Fo prog 128 f128 zOL:=⟨func128,kr⟩
def zFT:Fo prog 160 f160 zOL:=⟨func160,kr⟩
def zKJ:Fo prog 178 f178 zOL:=⟨func178,kr⟩
def zFa:Fo prog 184 f184 zEN:=⟨func184,kr⟩
def zFf:Fo prog 190 f190 zOL:=⟨func190,kr⟩
def zFk:Fo prog 196 f196 zDY:=⟨func196,kr⟩
def zKP:Fo prog 202 f202 zOL:=⟨func202,kr⟩
def zFp:Fo prog 208 f208 zOL:=⟨func208,kr⟩
abbrev JJ:Cfg:=zi [] [(3,[(0,.st),(4,.st),(1,.no),(2,.no),(3,.st),(5,.no),(6,.no),(7,.st),(8,.no),(9,.st),(10,.no),(11,.no),(12,.st),(13,.st)]++nr 14 6)]
def zFs:Fo prog 228 f228 JJ:=⟨func228,kr⟩
abbrev zC5:Cfg:=zi [] [(4,nr 0 9++ [(15,.no)]++nr 9 6++nr 16 4)]
def zKX:Fo prog 240 f240 zC5:=⟨func240,kr⟩
def zF3:Fo prog 246 f246 zOL:=⟨func246,kr⟩
abbrev zC8:Cfg:=zi [24] []
def zKa:Fo prog 252 f252 zC8:=⟨func252,kr⟩
abbrev zDH:Cfg:=zi [76] [(14,nr 0 32),(19,nr 0 15),(21,nr 0 18)]
def zKi:Fo prog 279 f279 zDH:=⟨func279,kr⟩
def zF9:Fo prog 285 f285 zOL:=⟨func285,kr⟩
def zKn:Fo prog 291 f291 zOL:=⟨func291,kr⟩
abbrev zDS:Cfg:=zi [] [(6,nr 0 20)]
def zKw:Fo prog 316 f316 zDS:=⟨func316,kr⟩
def zGK:Fo prog 322 f322 zOL:=⟨func322,kr⟩
def zKx:Fo prog 328 f328 zOL:=⟨func328,kr⟩
def zK2:Fo prog 334 f334 zOL:=⟨func334,kr⟩
def zK8:Fo prog 352 f352 zOL:=⟨func352,kr⟩
def zLD:Fo prog 358 f358 zOL:=⟨func358,kr⟩
def zGS:Fo prog 364 f364 zOL:=⟨func364,kr⟩
def zGX:Fo prog 377 f377 zOL:=⟨func377,kr⟩
def zLI:Fo prog 383 f383 zOL:=⟨func383,kr⟩
def zLN:Fo prog 395 f395 zOL:=⟨func395,kr⟩
def zGa:Fo prog 430 f430 zDz:=⟨func430,kr⟩
abbrev sJ:=List (Nat× (List D×D))
def Ju:sJ->Nat->List D->Option D
 | [],_,_=>none
 |(k,x)::l,g,args=>match Nat.beq k g with
  |true=>match Gr x.1 args with
   |true=>some x.2
   |false=>Ju l g args
  |false=>Ju l g args
def zEb(lib:FuncId->List D->(Nat->Option Obj)->He)(m:sJ)(g:FuncId)(args:List D)(hp:Nat->Option Obj):He:=
 match lib g args hp with
 |some d=>some d
 |none=>Uy (Ju m g args)
def Ht(P:Program)(lib:FuncId->List D->(Nat->Option Obj)->He):Prop:=∀g args (h:Heap) r,lib g args h.at'=some r->zD P g args h λa b=>a=r.1/\b=zIX r.2 h
def dQ(P:Program):sJ->Prop
 | []=>True
 |(k,x)::l=>(∀h,zD P k x.1 h λa b=>a=x.2/\b=h)/\dQ P l
variable{P:Program}{args ds:List D}{h:Heap}{f:FuncId}{d:D}{M:Imm}{ρ:Ren}{va:Array Value}{s:List UInt8}
theorem Uh:∀{m:sJ},dQ P m->∀g args h d,Ju m g args=some d->zD P g args h λa b=>a=d/\b=h
 | [],_,_,_,_,_,c=>by cases c
 |(k,x)::l,e,g,args,h,d,c=>by
  simp only[Ju]at c;split at c
  .rename_i i
   split at c
   .rename_i f
    cases c;rw[<-z6 i,<-af _ _ f];exact e.1 h
   .exact Uh e.2 g args h d c
  .exact Uh e.2 g args h d c
def AW{b:FuncId->List D->(Nat->Option Obj)->He}{m:sJ}(e:Ht P b)(f:dQ P m):Ht P (zEb b m):=λg args h r a=>by
 unfold zEb at a;split at a
 .rename_i i c
  cases a;exact e g args h _ c
 .unfold Uy at a
  split at a
  .rename_i d c
   cases a;exact Uh f g args h d c
  .cases a
def bm{g:FuncId}{o:Option D}{r:D×Option (Nat×Obj)}(hr:Uy o=some r)(c:∀d,o=some d->zD P g args h λa b=>a=d/\b=h):zD P g args h λa b=>a=r.1/\b=zIX r.2 h:=by
 unfold Uy at hr;split at hr
 .rename_i d
  cases hr;exact c d rfl
 .cases hr
def dQ.add(e:P.follows .mixedOrders=true){tab:List (Nat× (Func×Cfg))}(g:aU P tab){j:FuncId->Bool}{i:FuncId->List D->(Nat->Option Obj)->He}(p:Ht P i){m:sJ}(l:dQ P m)
  {fuel k:Nat} (n:p5 args=true) (o:gG d=true)
  (q:(Fq P tab j (zEb i m) fuel k [] (.fn (.func f) [] []) args HT.emp).map (λr=>gp r.1 r.2.heap)=some d):dQ P ((f,(args,d))::m):=
 ⟨λh=>(zD.of_run e g (AW p l) n o q h).mono λa b c=>⟨c.2,c.1⟩,l⟩
open Go.RowKit (Below)
def zD.of_lib(l:rP P f=true)
  (k:∀(M:Imm)(ρ:Ren)(c:Array Value)(w:World),wG M ρ ds c.toList->Calls P f c w λe i=>∃v,e=.returned v/\Bel w.heap.size w i/\∀(M':Imm)(q:Ren),rel M' q d v) (h:Heap):
  zD P f ds h λa b=>a=d/\b=h:=by
 refine⟨l,λw0 G M ρ w c m o g hr=>(k M ρ c w hr).mono λe i n=> ?_⟩;obtain⟨v,rfl,j,p⟩:=n;exact⟨v,M,ρ,d,h,rfl,MLe.refl _,RLe.refl _,o.world j,g,p M ρ,rfl,rfl⟩
def U4{s t:List UInt8}(hr:wG M ρ [.str s,.str t] va.toList):∃b c:ByteArray,va= #[.string b,.string c]/\b.data.toList=s/\c.data.toList=t/\s.length<=lim/\t.length<=lim:=by
 simp only[wG,rel]at hr;obtain⟨v,vs,e,⟨b,rfl,h1,d⟩,h,g,a,⟨c,rfl,h3,f⟩,rfl⟩:=hr;subst a;exact⟨b,c,tU (by simpa using e),h1,h3,d,f⟩
def zBW(n:Int):Option D:=if IntKind.i64.wrap n==n then some (.int .i64 n)else none
def N3{n:Int}(h:zBW n=some d)(M:Imm)(ρ:Ren):rel M ρ d (.int .i64 n):=by
 unfold zBW at h;split at h
 .rename_i a
  cases h;exact wx (show fits _ _ from by unfold fits;simpa using a)
 .cases h
def zIV(s:List UInt8):Option D:=if decide (s.length<=lim)then some (.str s)else none
def Fc(h:zIV s=some d)(M:Imm)(ρ:Ren):rel M ρ d (.string ⟨s.toArray⟩):=by
 unfold zIV at h;split at h
 .rename_i a
  cases h;simp only[rel];exact⟨_,rfl,jS,by simpa using a⟩
 .cases h
def bX:List D->Option D
 | [.str s,.str t]=>match t with
  | [c]=>zBW (Lib.indexByte s c)
  |_=>none
 |_=>none
def YO:List D->Option D
 | [.str s,.str t]=>match t with
  | [c]=>zBW (Lib.countByte s c)
  |_=>none
 |_=>none
def Uf:List D->Option D
 | [.str s,.str c]=>if Nat.ble 2 c.length&&c.all (λb=>decide (b.toNat<128))&&Nat.blt c.length 4294967281 then zIV (Lib.trimS s c)else none
 |_=>none
def Ts{b:ByteArray}{c:UInt8}(h:b.data.toList= [c]):b= ⟨#[c]⟩:=by
 cases b with
 |mk a=>
  have:a= #[c]:=tU (by simpa using h);rw[this]
def cM(m:rP P f=true)(l:∀(s:ByteArray)(c:UInt8)(w:World),Calls P f #[.string s,.string ⟨#[c]⟩] w λe i=>e=.returned (.int .i64 (Lib.indexByte s.data.toList c))/\i=w)(g:bX args=some d)(h:Heap):zD P f args h λa b=>a=d/\b=h:=by
 unfold bX at g;split at g
 .rename_i s t
  split at g
  .rename_i c
   refine zD.of_lib m (λM ρ q w hr=> ?_) h;obtain⟨j,p,rfl,rfl,k,_,_⟩:=U4 hr;rw[Ts k];refine(l j c w).mono λe i n=> ?_;obtain⟨rfl,rfl⟩:=n;exact⟨_,rfl,Bel.refl _ _,λM' o=>N3 g M' o⟩
  .cases g
 .cases g
def Xb(m:rP P f=true)(l:∀(s:ByteArray)(c:UInt8)(w:World),Calls P f #[.string s,.string ⟨#[c]⟩] w λe i=>e=.returned (.int .i64 (Lib.countByte s.data.toList c))/\i=w)(g:YO args=some d)(h:Heap):zD P f args h λa b=>a=d/\b=h:=by
 unfold YO at g;split at g
 .rename_i s t
  split at g
  .rename_i c
   refine zD.of_lib m (λM ρ q w hr=> ?_) h;obtain⟨j,p,rfl,rfl,k,_,_⟩:=U4 hr;rw[Ts k];refine(l j c w).mono λe i n=> ?_;obtain⟨rfl,rfl⟩:=n;exact⟨_,rfl,Bel.refl _ _,λM' o=>N3 g M' o⟩
  .cases g
 .cases g
def Mh{ρ:Go.Shelf.Ren}(L:Go.Proofs.Lays.n160 P ρ)(d:(P.info? (ρ.t 116)).map (λi=>(i.zero,i.size))=some (some (.agg (Array.replicate 256 (.bool false))),256))(s a:ByteArray)(w:World)(g:2<=a.size)(n:s.size<=9223372036854775807)(k:a.size<4294967281)
  (c:∀(j:Nat) b,a.data.toList[j]? =some b->b.toNat<128):
  Calls P (ρ.f 160) #[.string s,.string a] w λe l=>e=.returned (.string ⟨(Lib.trimS s.data.toList a.data.toList).toArray⟩)/\Bel w.heap.size w l:=by
 by_cases h:s.size=0
 .refine(Go.Proofs.Any.strings_Trim_empty L s a w (.inl h)).mono λe l ⟨h1,g⟩=>⟨?_,g▸Bel.refl _ _⟩
  have m:s.data.toList= []:=yS (by rw[<-Lib.size_eq];exact h);rw[h1,m];congr 2;rw[<-Lib.mk_data s,m];rfl
 .refine(Go.Proofs.Any.strings_Trim_set L (Go.zero_of_info d).1 (Go.zero_of_info d).2 s a w g ow n k c).mono λe l ⟨h1,g⟩=>⟨h1,?_⟩
  obtain⟨q,rfl⟩:=g;exact⟨(((Below.refl _ _).alloc (zC _) _).alloc jS _).trans ⟨rfl,rfl,rfl,zC _,λ_ _=>rfl⟩,Nat.le_add_right _ _⟩
def VF{P : Program}{f : FuncId}(q : rP P f = true)(p : ∀(s c : ByteArray)(w : World), 2 <= c.size -> s.size <= 9223372036854775807 -> c.size < 4294967281 -> (∀(j : Nat) b, c.data.toList[j]? = some b -> b.toNat < 128) ->
      Calls P f #[.string s,.string c] w λe n => e =.returned (.string ⟨(Lib.trimS s.data.toList c.data.toList).toArray⟩) /\ Bel w.heap.size w n)
    {args : List D} {d : D} (i : Uf args = some d) (h : Heap) : zD P f args h λa b => a = d /\ b = h := by
  unfold Uf at i;split at i
  · rename_i s c
    split at i
    · rename_i g
      simp only [zF]at g;have m : c.length < 4294967281 := by rw [<- l8]; exact g.2
      refine zD.of_lib q (λM ρ u w hr => ?_) h;obtain ⟨k, l, rfl, rfl, rfl, h3, _⟩ := U4 hr;have e1 : k.size = k.data.toList.length := by rw [yI]; rfl
      have e2 : l.size = l.data.toList.length := by rw [yI]; rfl
      refine (p k l w (by rw [e2]; exact by have := g.1.1; rwa [Nat.ble_eq]at this) (by rw [e1]; unfold lim at h3; omega) (by rw [e2]; exact m) (Go.Proofs.ascii_of_all g.1.2)).mono λe n r => ?_;obtain ⟨rfl, o⟩ := r;exact ⟨_, rfl, o, λM' t => Fc i M' t⟩
    · cases i
  · cases i
end Go.V
end
