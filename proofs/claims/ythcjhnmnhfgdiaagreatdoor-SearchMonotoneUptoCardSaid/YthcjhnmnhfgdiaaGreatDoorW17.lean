/- How functions of this program are read by the machine, part 1. No condition. -/
import Derived.Test.YthcjhnmnhfgdiaaGreatDoorW03
import Derived.KernelRfl
import Derived.Test.YthcjhnmnhfgdiaaGreatDoorProg
set_option linter.all false
set_option maxHeartbeats 8000000
noncomputable section
namespace Go.V
open Go.Proofs.Tryz
open Go.Proofs
def zDe:Cfg:=zH [] []
def mu9 (t:Tmp):zDe.mu t=xc [] t:=(rfl)
def ok9:zZ prog zDe f9=true:=by kernel_rfl
def By:Cfg:=zH [19] []
def zHn:zZ prog By f15=true:=by kernel_rfl
def F0:Cfg:=zH [] []
def zHo (t:Tmp):F0.mu t=xc [] t:=(rfl)
def zHp:zZ prog F0 f21=true:=by kernel_rfl
def F5:Cfg:=zH [] []
def H8 (t:Tmp):F5.mu t=xc [] t:=(rfl)
def zHq:zZ prog F5 f27=true:=by kernel_rfl
def JI:Cfg:=zH [] []
def ZN (t:Tmp):JI.mu t=xc [] t:=(rfl)
def zGv:zZ prog JI f39=true:=by kernel_rfl
def F6:Cfg:=zH [] []
def zGw:zZ prog F6 f45=true:=by kernel_rfl
def Bz:Cfg:=zH [] []
def zHr:zZ prog Bz f51=true:=by kernel_rfl
def B0:Cfg:=zH [] []
def zHs:zZ prog B0 f57=true:=by kernel_rfl
def JJ:Cfg:=zH [] []
def zDf (t:Tmp):JJ.mu t=xc [] t:=(rfl)
def zGx:zZ prog JJ f63=true:=by kernel_rfl
def F7:Cfg:=zH [] [(10,nr 0 12)]
def W5 (t:Tmp):F7.mu t=xc [] t:=(rfl)
def zHt:zZ prog F7 f69=true:=by kernel_rfl
def B1:Cfg:=zH [] []
def zHu:zZ prog B1 f75=true:=by kernel_rfl
def JK:Cfg:=zH [] []
def zHv (t:Tmp):JK.mu t=xc [] t:=(rfl)
def zGy:zZ prog JK f81=true:=by kernel_rfl
def JL:Cfg:=zH [5] [(1,[(0, .no),(1, .no),(3, .no),(4, .st),(2, .no),(6, .no),(5, .no)]++nr 7 3),(3,[(0, .no),(1, .st)]++nr 2 14),(4,nr 0 20)]
def F8 (t:Tmp):JL.mu t=xc [5] t:=(rfl)
def zGz:zZ prog JL f87=true:=by kernel_rfl
def F9:Cfg:=zH [] []
def zG0:zZ prog F9 f93=true:=by kernel_rfl
def B3:Cfg:=zH [] [(3,[(0, .no),(1, .no),(2, .st),(4, .no),(5, .no),(6, .st),(9, .no),(10, .no),(11, .st),(14, .no),(15, .no),(16, .st),(3, .st),(7, .st),(8, .st),(12, .st),(13, .st),(17, .st)]++nr 18 3),(6,nr 0 7),(7,[(6, .no)]++nr 0 6++nr 7 6)]
def zHw:zZ prog B3 f99=true:=by kernel_rfl
def Pk:Cfg:=zH [] []
def B4:zZ prog Pk f105=true:=by kernel_rfl
def Uf:Cfg:=zH [] [(16,nr 0 8++ [(13, .no)]++nr 8 5++nr 14 4)]
def Yv (t:Tmp):Uf.mu t=xc [] t:=(rfl)
def B5:zZ prog Uf f111=true:=by kernel_rfl
def Ug:Cfg:=zH [] []
def W6 (t:Tmp):Ug.mu t=xc [] t:=(rfl)
def B6:zZ prog Ug f117=true:=by kernel_rfl
def H9:Cfg:=zH [] []
def zDg:zZ prog H9 f123=true:=by kernel_rfl
def GA:Cfg:=zH [] []
def zDh:zZ prog GA f148=true:=by kernel_rfl
def Uh:Cfg:=zH [7] []
def zDi (t:Tmp):Uh.mu t=xc [7] t:=(rfl)
def B7:zZ prog Uh f154=true:=by kernel_rfl
def Ui:Cfg:=zH [7] []
def zDj (t:Tmp):Ui.mu t=xc [7] t:=(rfl)
def B8:zZ prog Ui f160=true:=by kernel_rfl
def Uj:Cfg:=zH [] []
def zDk (t:Tmp):Uj.mu t=xc [] t:=(rfl)
def B9:zZ prog Uj f166=true:=by kernel_rfl
def Pm:Cfg:=zH [] []
def JM (t:Tmp):Pm.mu t=xc [] t:=(rfl)
def zDl:zZ prog Pm f172=true:=by kernel_rfl
def GB:Cfg:=zH [] []
def zDm:zZ prog GB f180=true:=by kernel_rfl
def GC:Cfg:=zH [] [(4,nr 0 17),(6,nr 0 18)]
def zDn:zZ prog GC f186=true:=by kernel_rfl
def Pn:Cfg:=zH [] []
def zDo (t:Tmp):Pn.mu t=xc [] t:=(rfl)
def zDp:zZ prog Pn f192=true:=by kernel_rfl
def Uk:Cfg:=zH [] []
def ZO (t:Tmp):Uk.mu t=xc [] t:=(rfl)
def AA:zZ prog Uk f198=true:=by kernel_rfl
def bV:Cfg:=zH [] [(6,nr 0 19)]
def fX (t:Tmp):bV.mu t=xc [] t:=(rfl)
def AB:zZ prog bV f217=true:=by kernel_rfl
def Ul:Cfg:=zH [] []
def zDq (t:Tmp):Ul.mu t=xc [] t:=(rfl)
def AC:zZ prog Ul f223=true:=by kernel_rfl
def Um:Cfg:=zH [] []
def zDr (t:Tmp):Um.mu t=xc [] t:=(rfl)
def AD:zZ prog Um f229=true:=by kernel_rfl
def Po:Cfg:=zH [] []
def zDs (t:Tmp):Po.mu t=xc [] t:=(rfl)
def zDt:zZ prog Po f235=true:=by kernel_rfl
def Pp:Cfg:=zH [] []
def AE (t:Tmp):Pp.mu t=xc [] t:=(rfl)
def zDu:zZ prog Pp f241=true:=by kernel_rfl
def Pq:Cfg:=zH [] [(11,nr 0 20),(16,nr 0 12)]
def fY (t:Tmp):Pq.mu t=xc [] t:=(rfl)
def zDv:zZ prog Pq f261=true:=by kernel_rfl
def Pr:Cfg:=zH [] []
def Ps (t:Tmp):Pr.mu t=xc [] t:=(rfl)
def zDw:zZ prog Pr f267=true:=by kernel_rfl
def Pt:Cfg:=zH [] [(1,[(2, .no),(0, .no),(1, .no)]++nr 3 10)]
def AF (t:Tmp):Pt.mu t=xc [] t:=(rfl)
def zDx:zZ prog Pt f279=true:=by kernel_rfl
def GD:Cfg:=zH [] []
def zDy:zZ prog GD f315=true:=by kernel_rfl
def Pu:Cfg:=zH [] []
def W7 (t:Tmp):Pu.mu t=xc [] t:=(rfl)
def zDz:zZ prog Pu f324=true:=by kernel_rfl
def Pv:Cfg:=zH [] []
def W8 (t:Tmp):Pv.mu t=xc [] t:=(rfl)
def zD0:zZ prog Pv f330=true:=by kernel_rfl
def Pw:Cfg:=zH [] []
def ZP (t:Tmp):Pw.mu t=xc [] t:=(rfl)
def zD1:zZ prog Pw f336=true:=by kernel_rfl
def Un:Cfg:=zH [] []
def kT (t:Tmp):Un.mu t=xc [] t:=(rfl)
def AG:zZ prog Un f342=true:=by kernel_rfl
def Px:Cfg:=zH [] []
def AH:zZ prog Px f348=true:=by kernel_rfl
def Py:Cfg:=zH [] []
def Pz (t:Tmp):Py.mu t=xc [] t:=(rfl)
def zD2:zZ prog Py f372=true:=by kernel_rfl
def Uo:Cfg:=zH [] []
def zD3 (t:Tmp):Uo.mu t=xc [] t:=(rfl)
def AI:zZ prog Uo f390=true:=by kernel_rfl
def Up:Cfg:=zH [] [(4,nr 0 6)]
def W9 (t:Tmp):Up.mu t=xc [] t:=(rfl)
def AJ:zZ prog Up f408=true:=by kernel_rfl
def JN:Cfg:=zH [] [(10,nr 0 11),(16,nr 0 8)]
def P0 (t:Tmp):JN.mu t=xc [] t:=(rfl)
def zG1:zZ prog JN f40=true:=by kernel_rfl
def EA:Cfg:=zH [] []
def AK (t:Tmp):EA.mu t=xc [] t:=(rfl)
def zHx:zZ prog EA f46=true:=by kernel_rfl
def JO:Cfg:=zH [] []
def zD4 (t:Tmp):JO.mu t=xc [] t:=(rfl)
def zG2:zZ prog JO f52=true:=by kernel_rfl
def EB:Cfg:=zH [] [(1,nr 0 4++ [(5, .no),(6, .st),(7, .no),(8, .st),(4, .no)]++nr 9 4)]
def zG3 (t:Tmp):EB.mu t=xc [] t:=(rfl)
def zHy:zZ prog EB f58=true:=by kernel_rfl
def AL:Cfg:=zH [] [(10,nr 0 5++ [(5, .st)]++nr 6 13++ [(19, .st)]++nr 20 21)]
def zHz:zZ prog AL f64=true:=by kernel_rfl
def JP:Cfg:=zH [] []
def zH0 (t:Tmp):JP.mu t=xc [] t:=(rfl)
def zG4:zZ prog JP f76=true:=by kernel_rfl
def JQ:Cfg:=zH [] [(3,[(0, .st)]++nr 1 3)]
def zCY (t:Tmp):JQ.mu t=xc [] t:=(rfl)
def zG5:zZ prog JQ f82=true:=by kernel_rfl
def JR:Cfg:=zH [] [(1,nr 0 3++ [(3, .st)]++nr 4 5++ [(9, .st)]++nr 10 5)]
def EC (t:Tmp):JR.mu t=xc [] t:=(rfl)
def zG6:zZ prog JR f88=true:=by kernel_rfl
def JS:Cfg:=zH [31] []
def zH1 (t:Tmp):JS.mu t=xc [31] t:=(rfl)
def zG7:zZ prog JS f94=true:=by kernel_rfl
def P1:Cfg:=zH [] []
def AM:zZ prog P1 f106=true:=by kernel_rfl
def P2:Cfg:=zH [] [(9,nr 0 9++ [(14, .no)]++nr 9 5++nr 15 4)]
def Yw (t:Tmp):P2.mu t=xc [] t:=(rfl)
def zD5:zZ prog P2 f112=true:=by kernel_rfl
def Uq:Cfg:=zH [] [(1,nr 0 12)]
def AN (t:Tmp):Uq.mu t=xc [] t:=(rfl)
def AO:zZ prog Uq f118=true:=by kernel_rfl
def GE:Cfg:=zH [] []
def zD6:zZ prog GE f124=true:=by kernel_rfl
def P3:Cfg:=zH [] [(8,nr 0 7)]
def Ro (t:Tmp):P3.mu t=xc [] t:=(rfl)
def zD7:zZ prog P3 f136=true:=by kernel_rfl
def Ur:Cfg:=zH [] []
def P4 (t:Tmp):Ur.mu t=xc [] t:=(rfl)
def AP:zZ prog Ur f149=true:=by kernel_rfl
def Us:Cfg:=zH [] []
def zD8 (t:Tmp):Us.mu t=xc [] t:=(rfl)
def AQ:zZ prog Us f155=true:=by kernel_rfl
def Ut:Cfg:=zH [] []
def zD9 (t:Tmp):Ut.mu t=xc [] t:=(rfl)
def AR:zZ prog Ut f161=true:=by kernel_rfl
def Uu:Cfg:=zH [] []
def AS (t:Tmp):Uu.mu t=xc [] t:=(rfl)
def AT:zZ prog Uu f167=true:=by kernel_rfl
def GF:Cfg:=zH [] []
def zEA:zZ prog GF f174=true:=by kernel_rfl
def GG:Cfg:=zH [] []
def zEB:zZ prog GG f181=true:=by kernel_rfl
def Uv:Cfg:=zH [] []
def zEC (t:Tmp):Uv.mu t=xc [] t:=(rfl)
def AU:zZ prog Uv f193=true:=by kernel_rfl
def Uw:Cfg:=zH [] []
def zED (t:Tmp):Uw.mu t=xc [] t:=(rfl)
def AV:zZ prog Uw f199=true:=by kernel_rfl
def bW:Cfg:=zH [] [(3,nr 0 10),(6,[(0, .no),(9, .no)]++nr 1 8++nr 10 10),(7,nr 0 34),(8,[(0, .no),(1, .no),(8, .no)]++nr 2 6++nr 9 7)]
def lD (t:Tmp):bW.mu t=xc [] t:=(rfl)
def AW:zZ prog bW f218=true:=by kernel_rfl
def P5:Cfg:=zH [] []
def AX:zZ prog P5 f224=true:=by kernel_rfl
def Ux:Cfg:=zH [] []
def Yx (t:Tmp):Ux.mu t=xc [] t:=(rfl)
def AY:zZ prog Ux f230=true:=by kernel_rfl
def P6:Cfg:=zH [] [(1,nr 0 4++ [(5, .no),(6, .st),(7, .no),(8, .st),(4, .no)]++nr 9 4)]
def AZ (t:Tmp):P6.mu t=xc [] t:=(rfl)
def zEE:zZ prog P6 f236=true:=by kernel_rfl
def Uy:Cfg:=zH [2] []
def P7 (t:Tmp):Uy.mu t=xc [2] t:=(rfl)
def zEF:zZ prog Uy f242=true:=by kernel_rfl
def P8:Cfg:=zH [] [(11,nr 0 8),(16,nr 0 12),(18,nr 0 3++ [(9, .no)]++nr 3 6++nr 10 3)]
def jv (t:Tmp):P8.mu t=xc [] t:=(rfl)
def zEG:zZ prog P8 f262=true:=by kernel_rfl
def P9:Cfg:=zH [] []
def Aa (t:Tmp):P9.mu t=xc [] t:=(rfl)
def zEH:zZ prog P9 f268=true:=by kernel_rfl
def Uz:Cfg:=zH [] []
def zEI (t:Tmp):Uz.mu t=xc [] t:=(rfl)
def Ab:zZ prog Uz f274=true:=by kernel_rfl
def U0:Cfg:=zH [] [(7,nr 0 9)]
def cQ (t:Tmp):U0.mu t=xc [] t:=(rfl)
def Ac:zZ prog U0 f280=true:=by kernel_rfl
def ND:Cfg:=zH [] []
def Ad:zZ prog ND f292=true:=by kernel_rfl
def NE:Cfg:=zH [] []
def VA (t:Tmp):NE.mu t=xc [] t:=(rfl)
def zEJ:zZ prog NE f298=true:=by kernel_rfl
def NF:Cfg:=zH [] []
def JT (t:Tmp):NF.mu t=xc [] t:=(rfl)
def zEK:zZ prog NF f325=true:=by kernel_rfl
def NG:Cfg:=zH [] []
def NH (t:Tmp):NG.mu t=xc [] t:=(rfl)
def zEL:zZ prog NG f331=true:=by kernel_rfl
def NI:Cfg:=zH [] []
def JU (t:Tmp):NI.mu t=xc [] t:=(rfl)
def zEM:zZ prog NI f337=true:=by kernel_rfl
def U3:Cfg:=zH [] []
def ZQ (t:Tmp):U3.mu t=xc [] t:=(rfl)
def Ae:zZ prog U3 f343=true:=by kernel_rfl
def NJ:Cfg:=zH [] [(4,nr 0 6)]
def VB (t:Tmp):NJ.mu t=xc [] t:=(rfl)
def zEN:zZ prog NJ f373=true:=by kernel_rfl
def Af:Cfg:=zH [] []
def zH2:zZ prog Af f17=true:=by kernel_rfl
def NK:Cfg:=zH [] []
def zEO (t:Tmp):NK.mu t=xc [] t:=(rfl)
def zEP:zZ prog NK f29=true:=by kernel_rfl
def NL:Cfg:=zH [] []
def Ch (t:Tmp):NL.mu t=xc [] t:=(rfl)
def zG8:zZ prog NL f41=true:=by kernel_rfl
def Ag:Cfg:=zH [] []
def zH3:zZ prog Ag f47=true:=by kernel_rfl
def Ah:Cfg:=zH [] []
def zH4:zZ prog Ah f53=true:=by kernel_rfl
def JV:Cfg:=zH [] []
def ZR (t:Tmp):JV.mu t=xc [] t:=(rfl)
def zG9:zZ prog JV f59=true:=by kernel_rfl
def Ai:Cfg:=zH [] []
def zH5:zZ prog Ai f65=true:=by kernel_rfl
def JW:Cfg:=zH [] []
def zH6 (t:Tmp):JW.mu t=xc [] t:=(rfl)
def zHA:zZ prog JW f77=true:=by kernel_rfl
def Rp:Cfg:=zH [40,60] [(2,[(0, .st),(4, .st),(8, .st),(1, .no),(2, .no),(3, .st),(5, .no),(6, .no),(7, .st),(9, .st)]++nr 10 8),(4,[(0, .st),(1, .no),(4, .no),(2, .no),(3, .no)]++nr 5 5),(9,[(0, .st)]++nr 1 9),(13,[(0, .st),(4, .no),(11, .no),(1, .no),(2, .st),(3, .no)]++nr 5 6++nr 12 8),(14,[(0, .st)]++nr 1 7)]
def cG (t:Tmp):Rp.mu t=xc [40,60] t:=(rfl)
def zCZ:zZ prog Rp f83=true:=by kernel_rfl
def JX:Cfg:=zH [] [(20,nr 0 12)]
def Rq (t:Tmp):JX.mu t=xc [] t:=(rfl)
def zHB:zZ prog JX f89=true:=by kernel_rfl
def Aj:Cfg:=zH [] []
def zH7:zZ prog Aj f95=true:=by kernel_rfl
def GH:Cfg:=zH [] []
def zEQ:zZ prog GH f101=true:=by kernel_rfl
def GI:Cfg:=zH [] []
def zER:zZ prog GI f107=true:=by kernel_rfl
def NM:Cfg:=zH [] [(7,nr 0 26),(11,nr 0 26),(15,nr 0 18),(23,nr 0 18)]
def sn (t:Tmp):NM.mu t=xc [] t:=(rfl)
def zES:zZ prog NM f113=true:=by kernel_rfl
def GJ:Cfg:=zH [] [(3,[(0, .st)]++nr 1 3)]
def zET:zZ prog GJ f119=true:=by kernel_rfl
def U4:Cfg:=zH [] []
def zEU (t:Tmp):U4.mu t=xc [] t:=(rfl)
def Ak:zZ prog U4 f125=true:=by kernel_rfl
def NN:Cfg:=zH [] []
def JY (t:Tmp):NN.mu t=xc [] t:=(rfl)
def zEV:zZ prog NN f131=true:=by kernel_rfl
def NO:Cfg:=zH [] []
def NP (t:Tmp):NO.mu t=xc [] t:=(rfl)
def zEW:zZ prog NO f137=true:=by kernel_rfl
def U5:Cfg:=zH [] []
def NQ (t:Tmp):U5.mu t=xc [] t:=(rfl)
def Al:zZ prog U5 f150=true:=by kernel_rfl
def U6:Cfg:=zH [] [(1,nr 0 4++ [(5, .no),(6, .st),(7, .no),(8, .st),(4, .no)]++nr 9 4)]
def Am (t:Tmp):U6.mu t=xc [] t:=(rfl)
def An:zZ prog U6 f156=true:=by kernel_rfl
def U7:Cfg:=zH [] []
def NR (t:Tmp):U7.mu t=xc [] t:=(rfl)
def Ao:zZ prog U7 f162=true:=by kernel_rfl
def NS:Cfg:=zH [44] []
def fZ (t:Tmp):NS.mu t=xc [44] t:=(rfl)
def zEX:zZ prog NS f168=true:=by kernel_rfl
def NT:Cfg:=zH [] []
def Ap:zZ prog NT f176=true:=by kernel_rfl
def GK:Cfg:=zH [] [(4,nr 0 17),(6,nr 0 18)]
def zEY:zZ prog GK f182=true:=by kernel_rfl
def GL:Cfg:=zH [] [(4,nr 0 17),(6,nr 0 18)]
def zEZ:zZ prog GL f188=true:=by kernel_rfl
def NU:Cfg:=zH [] [(4,nr 0 10)]
def VC (t:Tmp):NU.mu t=xc [] t:=(rfl)
def zEa:zZ prog NU f194=true:=by kernel_rfl
def GM:Cfg:=zH [] []
def zEb:zZ prog GM f200=true:=by kernel_rfl
def bX:Cfg:=zH [] [(3,[(0, .no),(4, .no),(8, .no)]++nr 1 3++nr 5 3++nr 9 9),(4,nr 0 4++ [(7, .no)]++nr 4 3++nr 8 6)]
def kU (t:Tmp):bX.mu t=xc [] t:=(rfl)
def Aq:zZ prog bX f219=true:=by kernel_rfl
def NV:Cfg:=zH [] []
def Ar:zZ prog NV f225=true:=by kernel_rfl
def U8:Cfg:=zH [] []
def As (t:Tmp):U8.mu t=xc [] t:=(rfl)
def Au:zZ prog U8 f231=true:=by kernel_rfl
def NW:Cfg:=zH [] [(6,nr 0 10),(11,nr 0 10)]
def lE (t:Tmp):NW.mu t=xc [] t:=(rfl)
def zEc:zZ prog NW f237=true:=by kernel_rfl
def NX:Cfg:=zH [] []
def Yy (t:Tmp):NX.mu t=xc [] t:=(rfl)
def zEd:zZ prog NX f243=true:=by kernel_rfl
def NY:Cfg:=zH [] [(4,nr 0 9++ [(15, .no)]++nr 9 6++nr 16 4)]
def JZ (t:Tmp):NY.mu t=xc [] t:=(rfl)
def zEe:zZ prog NY f263=true:=by kernel_rfl
def Na:Cfg:=zH [] [(6,nr 0 8)]
def Rr (t:Tmp):Na.mu t=xc [] t:=(rfl)
def zEf:zZ prog Na f269=true:=by kernel_rfl
def U9:Cfg:=zH [] [(1,nr 0 9),(4,[(4, .no)]++nr 0 4++nr 5 18++ [(25, .no),(23, .no),(24, .no)])]
def jw (t:Tmp):U9.mu t=xc [] t:=(rfl)
def Av:zZ prog U9 f275=true:=by kernel_rfl
def TA:Cfg:=zH [] []
def zEg (t:Tmp):TA.mu t=xc [] t:=(rfl)
def Aw:zZ prog TA f281=true:=by kernel_rfl
def Nb:Cfg:=zH [] []
def Ax:zZ prog Nb f293=true:=by kernel_rfl
def Nc:Cfg:=zH [] []
def zEh (t:Tmp):Nc.mu t=xc [] t:=(rfl)
def zEi:zZ prog Nc f299=true:=by kernel_rfl
def Nf:Cfg:=zH [] []
def zEj (t:Tmp):Nf.mu t=xc [] t:=(rfl)
def zEk:zZ prog Nf f326=true:=by kernel_rfl
def Ng:Cfg:=zH [] []
def Ja (t:Tmp):Ng.mu t=xc [] t:=(rfl)
def zEl:zZ prog Ng f332=true:=by kernel_rfl
def Nh:Cfg:=zH [] [(8,nr 0 9),(10,nr 0 9)]
def VD (t:Tmp):Nh.mu t=xc [] t:=(rfl)
def zEm:zZ prog Nh f338=true:=by kernel_rfl
def TB:Cfg:=zH [] []
def Ay (t:Tmp):TB.mu t=xc [] t:=(rfl)
def Az:zZ prog TB f344=true:=by kernel_rfl
def Ni:Cfg:=zH [] []
def zEn (t:Tmp):Ni.mu t=xc [] t:=(rfl)
def zEo:zZ prog Ni f386=true:=by kernel_rfl
def Nj:Cfg:=zH [] []
def A0:zZ prog Nj f392=true:=by kernel_rfl
def zEp:Cfg:=zH [] []
def mu6 (t:Tmp):zEp.mu t=xc [] t:=(rfl)
def ok6:zZ prog zEp f6=true:=by kernel_rfl
def A1:Cfg:=zH [] []
def zH8:zZ prog A1 f12=true:=by kernel_rfl
def A2:Cfg:=zH [] []
def zH9:zZ prog A2 f18=true:=by kernel_rfl
def A3:Cfg:=zH [17] [(7,nr 0 10)]
def zIA:zZ prog A3 f24=true:=by kernel_rfl
def A4:Cfg:=zH [] [(12,nr 0 5++ [(8, .no),(12, .no)]++nr 5 3++nr 9 3++nr 13 5)]
def zIB:zZ prog A4 f30=true:=by kernel_rfl
def A5:Cfg:=zH [] []
def zIC:zZ prog A5 f36=true:=by kernel_rfl
def Jb:Cfg:=zH [] []
def zID (t:Tmp):Jb.mu t=xc [] t:=(rfl)
def zHC:zZ prog Jb f42=true:=by kernel_rfl
def ED:Cfg:=zH [] []
def zHD:zZ prog ED f48=true:=by kernel_rfl
def EE:Cfg:=zH [] [(7,nr 0 14),(14,[(1, .no),(0, .no)]++nr 2 8)]
def YF (t:Tmp):EE.mu t=xc [] t:=(rfl)
def zIE:zZ prog EE f60=true:=by kernel_rfl
def A6:Cfg:=zH [] []
def zIF:zZ prog A6 f66=true:=by kernel_rfl
def Jc:Cfg:=zH [] [(6,nr 0 9)]
def GN (t:Tmp):Jc.mu t=xc [] t:=(rfl)
def zHE:zZ prog Jc f78=true:=by kernel_rfl
def Jd:Cfg:=zH [] []
def zCa (t:Tmp):Jd.mu t=xc [] t:=(rfl)
def zHF:zZ prog Jd f84=true:=by kernel_rfl
def Nk:Cfg:=zH [] []
def Kk (t:Tmp):Nk.mu t=xc [] t:=(rfl)
def zHG:zZ prog Nk f90=true:=by kernel_rfl
def A7:Cfg:=zH [] []
def zIG:zZ prog A7 f96=true:=by kernel_rfl
def TC:Cfg:=zH [] []
def zEq (t:Tmp):TC.mu t=xc [] t:=(rfl)
def A8:zZ prog TC f102=true:=by kernel_rfl
def TD:Cfg:=zH [] [(14,nr 0 13)]
def uQ (t:Tmp):TD.mu t=xc [] t:=(rfl)
def A9:zZ prog TD f108=true:=by kernel_rfl
def Nl:Cfg:=zH [] []
def zAA (t:Tmp):Nl.mu t=xc [] t:=(rfl)
def zEr:zZ prog Nl f114=true:=by kernel_rfl
def GO:Cfg:=zH [] [(7,[(0, .st),(2, .no),(3, .no),(1, .no)]++nr 4 6)]
def zEs:zZ prog GO f120=true:=by kernel_rfl
def TE:Cfg:=zH [] []
def jx (t:Tmp):TE.mu t=xc [] t:=(rfl)
def zAB:zZ prog TE f151=true:=by kernel_rfl
def Yz:Cfg:=zH [] [(6,nr 0 11),(11,nr 0 12)]
def n7 (t:Tmp):Yz.mu t=xc [] t:=(rfl)
def EF:zZ prog Yz f157=true:=by kernel_rfl
def Nm:Cfg:=zH [] []
def zAC:zZ prog Nm f163=true:=by kernel_rfl
def Nn:Cfg:=zH [] []
def zAD (t:Tmp):Nn.mu t=xc [] t:=(rfl)
def zEt:zZ prog Nn f169=true:=by kernel_rfl
def GP:Cfg:=zH [] [(4,nr 0 5)]
def zEu:zZ prog GP f177=true:=by kernel_rfl
def TG:Cfg:=zH [] [(4,nr 0 10)]
def VE (t:Tmp):TG.mu t=xc [] t:=(rfl)
def zAE:zZ prog TG f195=true:=by kernel_rfl
def Y1:Cfg:=zH [] [(14,[(0, .st),(1, .no),(2, .st),(3, .no),(4, .no),(5, .st),(6, .sq)]++nr 7 6),(20,nr 0 12)]
def lF (t:Tmp):Y1.mu t=xc [] t:=(rfl)
def EG:zZ prog Y1 f207=true:=by kernel_rfl
def Y2:Cfg:=zH [] []
def No (t:Tmp):Y2.mu t=xc [] t:=(rfl)
def zAF:zZ prog Y2 f220=true:=by kernel_rfl
def Np:Cfg:=zH [] []
def zAG:zZ prog Np f226=true:=by kernel_rfl
def TH:Cfg:=zH [] []
def Y3 (t:Tmp):TH.mu t=xc [] t:=(rfl)
def zAH:zZ prog TH f232=true:=by kernel_rfl
def Nq:Cfg:=zH [] [(11,nr 0 19)]
def kV (t:Tmp):Nq.mu t=xc [] t:=(rfl)
def zEv:zZ prog Nq f258=true:=by kernel_rfl
def Nr:Cfg:=zH [76] [(14,nr 0 32),(19,nr 0 15),(21,nr 0 18)]
def so (t:Tmp):Nr.mu t=xc [76] t:=(rfl)
def zEw:zZ prog Nr f270=true:=by kernel_rfl
def Ns:Cfg:=zH [] []
def zEy (t:Tmp):Ns.mu t=xc [] t:=(rfl)
def zEz:zZ prog Ns f276=true:=by kernel_rfl
def TI:Cfg:=zH [] [(1,[(2, .no),(6, .no),(0, .no),(1, .no)]++nr 3 3++nr 7 5)]
def zAI (t:Tmp):TI.mu t=xc [] t:=(rfl)
def zAJ:zZ prog TI f282=true:=by kernel_rfl
def TJ:Cfg:=zH [] []
def zAK (t:Tmp):TJ.mu t=xc [] t:=(rfl)
def zAL:zZ prog TJ f294=true:=by kernel_rfl
def Nt:Cfg:=zH [] []
def zE0 (t:Tmp):Nt.mu t=xc [] t:=(rfl)
def zE1:zZ prog Nt f300=true:=by kernel_rfl
def Nu:Cfg:=zH [] []
def zE2 (t:Tmp):Nu.mu t=xc [] t:=(rfl)
def zE3:zZ prog Nu f327=true:=by kernel_rfl
def Nv:Cfg:=zH [] []
def Nw (t:Tmp):Nv.mu t=xc [] t:=(rfl)
def zE4:zZ prog Nv f333=true:=by kernel_rfl
def bY:Cfg:=zH [] [(4,[(0, .no),(4, .no)]++nr 1 3++nr 5 6)]
def kW (t:Tmp):bY.mu t=xc [] t:=(rfl)
def zAM:zZ prog bY f339=true:=by kernel_rfl
def Nx:Cfg:=zH [] [(6,[(4, .no)]++nr 0 4++ [(5, .no)]),(8,nr 0 10)]
def pQ (t:Tmp):Nx.mu t=xc [] t:=(rfl)
def zE5:zZ prog Nx f387=true:=by kernel_rfl
def Rs:Cfg:=zH [] []
def EI (t:Tmp):Rs.mu t=xc [] t:=(rfl)
def zE6:zZ prog Rs f19=true:=by kernel_rfl
def zAN:Cfg:=zH [] [(6,nr 0 9)]
def zIH:zZ prog zAN f25=true:=by kernel_rfl
def Je:Cfg:=zH [] [(6,nr 0 10),(11,nr 0 10)]
def TK (t:Tmp):Je.mu t=xc [] t:=(rfl)
def zHH:zZ prog Je f37=true:=by kernel_rfl
def Jf:Cfg:=zH [] []
def EJ (t:Tmp):Jf.mu t=xc [] t:=(rfl)
def zHI:zZ prog Jf f43=true:=by kernel_rfl
def zAO:Cfg:=zH [] []
def zII:zZ prog zAO f49=true:=by kernel_rfl
def zAP:Cfg:=zH [] []
def zIJ:zZ prog zAP f55=true:=by kernel_rfl
def EK:Cfg:=zH [] []
def zCb (t:Tmp):EK.mu t=xc [] t:=(rfl)
def zIK:zZ prog EK f61=true:=by kernel_rfl
def Jg:Cfg:=zH [] []
def zIL (t:Tmp):Jg.mu t=xc [] t:=(rfl)
def zHJ:zZ prog Jg f79=true:=by kernel_rfl
def Jh:Cfg:=zH [] []
def Ci (t:Tmp):Jh.mu t=xc [] t:=(rfl)
def zHK:zZ prog Jh f85=true:=by kernel_rfl
def Rt:Cfg:=zH [] []
def fe (t:Tmp):Rt.mu t=xc [] t:=(rfl)
def zCc:zZ prog Rt f91=true:=by kernel_rfl
def zAQ:Cfg:=zH [] [(7,nr 0 12),(9,nr 0 17),(11,nr 0 21)]
def zIM:zZ prog zAQ f97=true:=by kernel_rfl
def GQ:Cfg:=zH [] []
def zE7:zZ prog GQ f103=true:=by kernel_rfl
def TL:Cfg:=zH [] []
def Ji (t:Tmp):TL.mu t=xc [] t:=(rfl)
def zAR:zZ prog TL f109=true:=by kernel_rfl
def Ny:Cfg:=zH [] []
def zE8 (t:Tmp):Ny.mu t=xc [] t:=(rfl)
def zE9:zZ prog Ny f115=true:=by kernel_rfl
def Y4:Cfg:=zH [] [(3,nr 0 13)]
def EL (t:Tmp):Y4.mu t=xc [] t:=(rfl)
def EM:zZ prog Y4 f121=true:=by kernel_rfl
def Nz:Cfg:=zH [] [(3,[(2, .no),(0, .no),(1, .st)]++nr 3 6)]
def N2 (t:Tmp):Nz.mu t=xc [] t:=(rfl)
def zFA:zZ prog Nz f127=true:=by kernel_rfl
def GR:Cfg:=zH [] [(4,nr 0 15),(6,nr 0 18)]
def zFB:zZ prog GR f139=true:=by kernel_rfl
def TM:Cfg:=zH [] []
def zAS (t:Tmp):TM.mu t=xc [] t:=(rfl)
def zAT:zZ prog TM f152=true:=by kernel_rfl
def GS:Cfg:=zH [7] []
def zFC:zZ prog GS f158=true:=by kernel_rfl
def TN:Cfg:=zH [] []
def Jj (t:Tmp):TN.mu t=xc [] t:=(rfl)
def zAU:zZ prog TN f164=true:=by kernel_rfl
def N3:Cfg:=zH [24] []
def jy (t:Tmp):N3.mu t=xc [24] t:=(rfl)
def zFD:zZ prog N3 f170=true:=by kernel_rfl
def GT:Cfg:=zH [] []
def zFE:zZ prog GT f178=true:=by kernel_rfl
def GU:Cfg:=zH [] [(4,nr 0 17),(6,nr 0 18)]
def zFF:zZ prog GU f184=true:=by kernel_rfl
def TO:Cfg:=zH [] []
def zAV (t:Tmp):TO.mu t=xc [] t:=(rfl)
def zAW:zZ prog TO f190=true:=by kernel_rfl
def TP:Cfg:=zH [] []
def VF (t:Tmp):TP.mu t=xc [] t:=(rfl)
def zAX:zZ prog TP f196=true:=by kernel_rfl
def N4:Cfg:=zH [] []
def rS (t:Tmp):N4.mu t=xc [] t:=(rfl)
def zFG:zZ prog N4 f202=true:=by kernel_rfl
def N5:Cfg:=zH [] []
def N6 (t:Tmp):N5.mu t=xc [] t:=(rfl)
def zFH:zZ prog N5 f208=true:=by kernel_rfl
def Y5:Cfg:=zH [] []
def Ru (t:Tmp):Y5.mu t=xc [] t:=(rfl)
def zAY:zZ prog Y5 f215=true:=by kernel_rfl
def TQ:Cfg:=zH [] [(17,nr 0 17)]
def EN (t:Tmp):TQ.mu t=xc [] t:=(rfl)
def zAZ:zZ prog TQ f221=true:=by kernel_rfl
def Y6:Cfg:=zH [] []
def N7 (t:Tmp):Y6.mu t=xc [] t:=(rfl)
def zAa:zZ prog Y6 f227=true:=by kernel_rfl
def N8:Cfg:=zH [] []
def zFI (t:Tmp):N8.mu t=xc [] t:=(rfl)
def zFJ:zZ prog N8 f239=true:=by kernel_rfl
def GV:Cfg:=zH [] []
def zFK:zZ prog GV f250=true:=by kernel_rfl
def TR:Cfg:=zH [] []
def N9 (t:Tmp):TR.mu t=xc [] t:=(rfl)
def zAb:zZ prog TR f259=true:=by kernel_rfl
def MA:Cfg:=zH [] []
def EO (t:Tmp):MA.mu t=xc [] t:=(rfl)
def zFL:zZ prog MA f271=true:=by kernel_rfl
def TS:Cfg:=zH [] []
def zFM (t:Tmp):TS.mu t=xc [] t:=(rfl)
def zAc:zZ prog TS f277=true:=by kernel_rfl
def MB:Cfg:=zH [] []
def zFN (t:Tmp):MB.mu t=xc [] t:=(rfl)
def zFO:zZ prog MB f283=true:=by kernel_rfl
def MC:Cfg:=zH [] []
def zFP (t:Tmp):MC.mu t=xc [] t:=(rfl)
def zFQ:zZ prog MC f301=true:=by kernel_rfl
def MD:Cfg:=zH [] [(6,nr 0 20)]
def Rv (t:Tmp):MD.mu t=xc [] t:=(rfl)
def zFR:zZ prog MD f328=true:=by kernel_rfl
def Y7:Cfg:=zH [] []
def Y8 (t:Tmp):Y7.mu t=xc [] t:=(rfl)
def EP:zZ prog Y7 f334=true:=by kernel_rfl
def TT:Cfg:=zH [] []
def zFS (t:Tmp):TT.mu t=xc [] t:=(rfl)
def zAd:zZ prog TT f340=true:=by kernel_rfl
def ME:Cfg:=zH [] [(4,[(4, .no)]++nr 0 4++ [(5, .no)])]
def MF (t:Tmp):ME.mu t=xc [] t:=(rfl)
def zFT:zZ prog ME f388=true:=by kernel_rfl
def zHL:Cfg:=zH [] [(4,[(0, .st),(1, .no),(2, .no),(3, .st)]++nr 4 6),(5,nr 0 9)]
def ok8:zZ prog zHL f8=true:=by kernel_rfl
def zAe:Cfg:=zH [] [(6,nr 0 9)]
def zIN:zZ prog zAe f14=true:=by kernel_rfl
def Jk:Cfg:=zH [] []
def MG (t:Tmp):Jk.mu t=xc [] t:=(rfl)
def zHM:zZ prog Jk f20=true:=by kernel_rfl
def EQ:Cfg:=zH [] []
def Jl (t:Tmp):EQ.mu t=xc [] t:=(rfl)
def zIO:zZ prog EQ f26=true:=by kernel_rfl
def Jm:Cfg:=zH [] []
def zFU (t:Tmp):Jm.mu t=xc [] t:=(rfl)
def zHN:zZ prog Jm f44=true:=by kernel_rfl
def zAf:Cfg:=zH [] []
def zIP:zZ prog zAf f50=true:=by kernel_rfl
def ER:Cfg:=zH [] [(1,nr 0 4++ [(5, .no),(6, .st),(7, .no),(8, .st),(10, .no),(11, .st),(12, .no),(13, .st),(15, .no),(16, .st),(17, .no),(18, .st),(4, .no),(9, .no),(14, .no)]++nr 19 4)]
def zHO (t:Tmp):ER.mu t=xc [] t:=(rfl)
def zIQ:zZ prog ER f56=true:=by kernel_rfl
def ES:Cfg:=zH [] []
def MH (t:Tmp):ES.mu t=xc [] t:=(rfl)
def zIR:zZ prog ES f62=true:=by kernel_rfl
def zAg:Cfg:=zH [] [(17,nr 0 15)]
def zIS:zZ prog zAg f74=true:=by kernel_rfl
def Jn:Cfg:=zH [] []
def zIT (t:Tmp):Jn.mu t=xc [] t:=(rfl)
def zHP:zZ prog Jn f80=true:=by kernel_rfl
def MI:Cfg:=zH [] []
def zHQ (t:Tmp):MI.mu t=xc [] t:=(rfl)
def zFV:zZ prog MI f86=true:=by kernel_rfl
def ET:Cfg:=zH [] []
def zHR:zZ prog ET f92=true:=by kernel_rfl
def GW:Cfg:=zH [] []
def zFW:zZ prog GW f104=true:=by kernel_rfl
def MJ:Cfg:=zH [] [(9,nr 0 25)]
def Jo (t:Tmp):MJ.mu t=xc [] t:=(rfl)
def zFX:zZ prog MJ f110=true:=by kernel_rfl
def TU:Cfg:=zH [] []
def Jp (t:Tmp):TU.mu t=xc [] t:=(rfl)
def zAh:zZ prog TU f116=true:=by kernel_rfl
def GX:Cfg:=zH [] []
def zFY:zZ prog GX f122=true:=by kernel_rfl
def TV:Cfg:=zH [16] [(2,[(0, .st),(1, .no),(2, .st)]++nr 3 6)]
def Jq (t:Tmp):TV.mu t=xc [16] t:=(rfl)
def zAi:zZ prog TV f153=true:=by kernel_rfl
def GY:Cfg:=zH [7] []
def zFZ:zZ prog GY f159=true:=by kernel_rfl
def Y9:Cfg:=zH [] []
def ZS (t:Tmp):Y9.mu t=xc [] t:=(rfl)
def zAj:zZ prog Y9 f165=true:=by kernel_rfl
def MK:Cfg:=zH [] []
def zAk (t:Tmp):MK.mu t=xc [] t:=(rfl)
def zFa:zZ prog MK f171=true:=by kernel_rfl
def GZ:Cfg:=zH [] []
def zFb:zZ prog GZ f179=true:=by kernel_rfl
def TW:Cfg:=zH [] []
def zAl (t:Tmp):TW.mu t=xc [] t:=(rfl)
def zAm:zZ prog TW f191=true:=by kernel_rfl
def ML:Cfg:=zH [] [(10,nr 0 12)]
def XA (t:Tmp):ML.mu t=xc [] t:=(rfl)
def zFc:zZ prog ML f197=true:=by kernel_rfl
def MM:Cfg:=zH [] []
def MN (t:Tmp):MM.mu t=xc [] t:=(rfl)
def zFd:zZ prog MM f203=true:=by kernel_rfl
def XB:Cfg:=zH [] [(14,nr 0 12)]
def rT (t:Tmp):XB.mu t=xc [] t:=(rfl)
def EU:zZ prog XB f209=true:=by kernel_rfl
def XC:Cfg:=zH [] [(3,[(0, .st),(4, .st),(1, .no),(2, .no),(3, .st),(5, .no),(6, .no),(7, .st),(8, .no),(9, .st),(10, .no),(11, .no),(12, .st),(13, .st)]++nr 14 6)]
def ZT (t:Tmp):XC.mu t=xc [] t:=(rfl)
def zAn:zZ prog XC f216=true:=by kernel_rfl
def TX:Cfg:=zH [] []
def VG (t:Tmp):TX.mu t=xc [] t:=(rfl)
def zAo:zZ prog TX f222=true:=by kernel_rfl
def TY:Cfg:=zH [] []
def Jr (t:Tmp):TY.mu t=xc [] t:=(rfl)
def zAp:zZ prog TY f228=true:=by kernel_rfl
def MO:Cfg:=zH [] []
def zFe (t:Tmp):MO.mu t=xc [] t:=(rfl)
def zFf:zZ prog MO f234=true:=by kernel_rfl
def MP:Cfg:=zH [] []
def zFg (t:Tmp):MP.mu t=xc [] t:=(rfl)
def zFh:zZ prog MP f240=true:=by kernel_rfl
def MQ:Cfg:=zH [] [(10,nr 0 14),(15,nr 0 20)]
def fg (t:Tmp):MQ.mu t=xc [] t:=(rfl)
def zFi:zZ prog MQ f260=true:=by kernel_rfl
def MR:Cfg:=zH [] [(1,nr 0 20)]
def zAq (t:Tmp):MR.mu t=xc [] t:=(rfl)
def zFj:zZ prog MR f266=true:=by kernel_rfl
def MS:Cfg:=zH [] [(8,nr 0 13)]
def cR (t:Tmp):MS.mu t=xc [] t:=(rfl)
def zFk:zZ prog MS f272=true:=by kernel_rfl
def TZ:Cfg:=zH [] []
def zFl (t:Tmp):TZ.mu t=xc [] t:=(rfl)
def zAr:zZ prog TZ f278=true:=by kernel_rfl
def Ta:Cfg:=zH [] [(4,nr 0 17),(6,nr 0 18)]
def EV (t:Tmp):Ta.mu t=xc [] t:=(rfl)
def zAs:zZ prog Ta f284=true:=by kernel_rfl
def MT:Cfg:=zH [] []
def MU (t:Tmp):MT.mu t=xc [] t:=(rfl)
def zFm:zZ prog MT f323=true:=by kernel_rfl
def MV:Cfg:=zH [] [(6,nr 0 12)]
def Rw (t:Tmp):MV.mu t=xc [] t:=(rfl)
def zFn:zZ prog MV f329=true:=by kernel_rfl
def MW:Cfg:=zH [] []
def zAt (t:Tmp):MW.mu t=xc [] t:=(rfl)
def zFo:zZ prog MW f335=true:=by kernel_rfl
def Tb:Cfg:=zH [] [(1,[(2, .no),(6, .no),(0, .no),(1, .no)]++nr 3 3++nr 7 5)]
def zAu (t:Tmp):Tb.mu t=xc [] t:=(rfl)
def zAv:zZ prog Tb f341=true:=by kernel_rfl
def MX:Cfg:=zH [] []
def zFp (t:Tmp):MX.mu t=xc [] t:=(rfl)
def zFq:zZ prog MX f389=true:=by kernel_rfl
set_option maxRecDepth 100000
def tab:List (Nat× (Func×Cfg)):=[(8,(f8,zHL)),(12,(f12,A1)),(14,(f14,zAe)),(15,(f15,By)),(17,(f17,Af)),(18,(f18,A2)),(19,(f19,Rs)),(20,(f20,Jk)),(24,(f24,A3)),(25,(f25,zAN)),(29,(f29,NK)),(30,(f30,A4)),(36,(f36,A5)),(37,(f37,Je)),(39,(f39,JI)),(40,(f40,JN)),(41,(f41,NL)),(42,(f42,Jb)),(43,(f43,Jf)),(44,(f44,Jm)),(45,(f45,F6)),(47,(f47,Ag)),(48,(f48,ED)),(49,(f49,zAO)),(50,(f50,zAf)),(51,(f51,Bz)),(52,(f52,JO)),(53,(f53,Ah)),(55,(f55,zAP)),(57,(f57,B0)),(59,(f59,JV)),(63,(f63,JJ)),(64,(f64,AL)),(65,(f65,Ai)),(66,(f66,A6)),(74,(f74,zAg)),(75,(f75,B1)),(76,(f76,JP)),(77,(f77,JW)),(78,(f78,Jc)),(79,(f79,Jg)),(80,(f80,Jn)),(81,(f81,JK)),(82,(f82,JQ)),(83,(f83,Rp)),(84,(f84,Jd)),(85,(f85,Jh)),(86,(f86,MI)),(87,(f87,JL)),(88,(f88,JR)),(89,(f89,JX)),(90,(f90,Nk)),(91,(f91,Rt)),(92,(f92,ET)),(93,(f93,F9)),(94,(f94,JS)),(95,(f95,Aj)),(96,(f96,A7)),(97,(f97,zAQ)),(99,(f99,B3)),(101,(f101,GH)),(102,(f102,TC)),(103,(f103,GQ)),(104,(f104,GW)),(105,(f105,Pk)),(106,(f106,P1)),(107,(f107,GI)),(108,(f108,TD)),(109,(f109,TL)),(111,(f111,Uf)),(116,(f116,TU)),(117,(f117,Ug)),(118,(f118,Uq)),(119,(f119,GJ)),(120,(f120,GO)),(121,(f121,Y4)),(122,(f122,GX)),(123,(f123,H9)),(124,(f124,GE)),(125,(f125,U4)),(139,(f139,GR)),(148,(f148,GA)),(149,(f149,Ur)),(150,(f150,U5)),(151,(f151,TE)),(152,(f152,TM)),(153,(f153,TV)),(154,(f154,Uh)),(155,(f155,Us)),(156,(f156,U6)),(157,(f157,Yz)),(158,(f158,GS)),(159,(f159,GY)),(160,(f160,Ui)),(161,(f161,Ut)),(162,(f162,U7)),(163,(f163,Nm)),(164,(f164,TN)),(165,(f165,Y9)),(166,(f166,Uj)),(167,(f167,Uu)),(174,(f174,GF)),(176,(f176,NT)),(177,(f177,GP)),(178,(f178,GT)),(179,(f179,GZ)),(180,(f180,GB)),(181,(f181,GG)),(182,(f182,GK)),(184,(f184,GU)),(186,(f186,GC)),(188,(f188,GL)),(190,(f190,TO)),(191,(f191,TW)),(193,(f193,Uv)),(195,(f195,TG)),(198,(f198,Uk)),(199,(f199,Uw)),(200,(f200,GM)),(215,(f215,Y5)),(216,(f216,XC)),(217,(f217,bV)),(218,(f218,bW)),(219,(f219,bX)),(220,(f220,Y2)),(221,(f221,TQ)),(222,(f222,TX)),(223,(f223,Ul)),(224,(f224,P5)),(225,(f225,NV)),(226,(f226,Np)),(227,(f227,Y6)),(228,(f228,TY)),(229,(f229,Um)),(230,(f230,Ux)),(231,(f231,U8)),(232,(f232,TH)),(250,(f250,GV)),(259,(f259,TR)),(274,(f274,Uz)),(275,(f275,U9)),(277,(f277,TS)),(278,(f278,TZ)),(280,(f280,U0)),(281,(f281,TA)),(282,(f282,TI)),(284,(f284,Ta)),(292,(f292,ND)),(293,(f293,Nb)),(294,(f294,TJ)),(315,(f315,GD)),(339,(f339,bY)),(340,(f340,TT)),(341,(f341,Tb)),(342,(f342,Un)),(343,(f343,U3)),(344,(f344,TB)),(348,(f348,Px)),(390,(f390,Uo)),(392,(f392,Nj)),(408,(f408,Up))]
def yL:kN prog tab:=⟨⟨func8,ok8⟩,⟨func12,zH8⟩,⟨func14,zIN⟩,⟨func15,zHn⟩,⟨func17,zH2⟩,⟨func18,zH9⟩,⟨func19,zE6⟩,⟨func20,zHM⟩,⟨func24,zIA⟩,⟨func25,zIH⟩,⟨func29,zEP⟩,⟨func30,zIB⟩,⟨func36,zIC⟩,⟨func37,zHH⟩,⟨func39,zGv⟩,⟨func40,zG1⟩,⟨func41,zG8⟩,⟨func42,zHC⟩,⟨func43,zHI⟩,⟨func44,zHN⟩,⟨func45,zGw⟩,⟨func47,zH3⟩,⟨func48,zHD⟩,⟨func49,zII⟩,⟨func50,zIP⟩,⟨func51,zHr⟩,⟨func52,zG2⟩,⟨func53,zH4⟩,⟨func55,zIJ⟩,⟨func57,zHs⟩,⟨func59,zG9⟩,⟨func63,zGx⟩,⟨func64,zHz⟩,⟨func65,zH5⟩,⟨func66,zIF⟩,⟨func74,zIS⟩,⟨func75,zHu⟩,⟨func76,zG4⟩,⟨func77,zHA⟩,⟨func78,zHE⟩,⟨func79,zHJ⟩,⟨func80,zHP⟩,⟨func81,zGy⟩,⟨func82,zG5⟩,⟨func83,zCZ⟩,⟨func84,zHF⟩,⟨func85,zHK⟩,⟨func86,zFV⟩,⟨func87,zGz⟩,⟨func88,zG6⟩,⟨func89,zHB⟩,⟨func90,zHG⟩,⟨func91,zCc⟩,⟨func92,zHR⟩,⟨func93,zG0⟩,⟨func94,zG7⟩,⟨func95,zH7⟩,⟨func96,zIG⟩,⟨func97,zIM⟩,⟨func99,zHw⟩,⟨func101,zEQ⟩,⟨func102,A8⟩,⟨func103,zE7⟩,⟨func104,zFW⟩,⟨func105,B4⟩,⟨func106,AM⟩,⟨func107,zER⟩,⟨func108,A9⟩,⟨func109,zAR⟩,⟨func111,B5⟩,⟨func116,zAh⟩,⟨func117,B6⟩,⟨func118,AO⟩,⟨func119,zET⟩,⟨func120,zEs⟩,⟨func121,EM⟩,⟨func122,zFY⟩,⟨func123,zDg⟩,⟨func124,zD6⟩,⟨func125,Ak⟩,⟨func139,zFB⟩,⟨func148,zDh⟩,⟨func149,AP⟩,⟨func150,Al⟩,⟨func151,zAB⟩,⟨func152,zAT⟩,⟨func153,zAi⟩,⟨func154,B7⟩,⟨func155,AQ⟩,⟨func156,An⟩,⟨func157,EF⟩,⟨func158,zFC⟩,⟨func159,zFZ⟩,⟨func160,B8⟩,⟨func161,AR⟩,⟨func162,Ao⟩,⟨func163,zAC⟩,⟨func164,zAU⟩,⟨func165,zAj⟩,⟨func166,B9⟩,⟨func167,AT⟩,⟨func174,zEA⟩,⟨func176,Ap⟩,⟨func177,zEu⟩,⟨func178,zFE⟩,⟨func179,zFb⟩,⟨func180,zDm⟩,⟨func181,zEB⟩,⟨func182,zEY⟩,⟨func184,zFF⟩,⟨func186,zDn⟩,⟨func188,zEZ⟩,⟨func190,zAW⟩,⟨func191,zAm⟩,⟨func193,AU⟩,⟨func195,zAE⟩,⟨func198,AA⟩,⟨func199,AV⟩,⟨func200,zEb⟩,⟨func215,zAY⟩,⟨func216,zAn⟩,⟨func217,AB⟩,⟨func218,AW⟩,⟨func219,Aq⟩,⟨func220,zAF⟩,⟨func221,zAZ⟩,⟨func222,zAo⟩,⟨func223,AC⟩,⟨func224,AX⟩,⟨func225,Ar⟩,⟨func226,zAG⟩,⟨func227,zAa⟩,⟨func228,zAp⟩,⟨func229,AD⟩,⟨func230,AY⟩,⟨func231,Au⟩,⟨func232,zAH⟩,⟨func250,zFK⟩,⟨func259,zAb⟩,⟨func274,Ab⟩,⟨func275,Av⟩,⟨func277,zAc⟩,⟨func278,zAr⟩,⟨func280,Ac⟩,⟨func281,Aw⟩,⟨func282,zAJ⟩,⟨func284,zAs⟩,⟨func292,Ad⟩,⟨func293,Ax⟩,⟨func294,zAL⟩,⟨func315,zDy⟩,⟨func339,zAM⟩,⟨func340,zAd⟩,⟨func341,zAv⟩,⟨func342,AG⟩,⟨func343,Ae⟩,⟨func344,Az⟩,⟨func348,AH⟩,⟨func390,AI⟩,⟨func392,A0⟩,⟨func408,AJ⟩,trivial⟩
def mix:prog.follows .mixedOrders=true:=by kernel_rfl
attribute[go_sem] mu9 zHo H8 ZN zDf W5 zHv F8 Yv W6 zDi zDj zDk JM zDo ZO fX zDq zDr zDs AE fY Ps AF W7 W8 ZP kT Pz zD3 W9 P0 AK zD4 zG3 zH0 zCY EC zH1 Yw AN Ro P4 zD8 zD9 AS zEC zED lD Yx AZ P7 jv Aa zEI cQ VA JT NH JU ZQ VB zEO Ch ZR zH6 cG Rq sn zEU JY NP NQ Am NR fZ VC kU As lE Yy JZ Rr jw zEg zEh zEj Ja VD Ay zEn mu6 zID YF GN zCa Kk zEq uQ zAA jx n7 zAD VE lF No Y3 kV so zEy zAI zAK zE0 zE2 Nw kW pQ EI TK EJ zCb zIL Ci fe Ji zE8 EL N2 zAS Jj jy zAV VF rS N6 Ru EN N7 zFI N9 EO zFM zFN zFP Rv Y8 zFS MF MG Jl zFU zHO MH zIT zHQ Jo Jp Jq ZS zAk zAl XA MN rT ZT VG Jr zFe zFg fg zAq cR zFl EV MU Rw zAt zAu zFp
end Go.V
end
