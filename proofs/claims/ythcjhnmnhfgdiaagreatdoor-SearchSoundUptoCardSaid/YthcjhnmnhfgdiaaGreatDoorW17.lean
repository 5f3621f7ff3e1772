/- How functions of this program are read by the machine, part 1. No condition. -/
import Derived.Test.YthcjhnmnhfgdiaaGreatDoorW03
import Derived.KernelRfl
import Derived.Test.YthcjhnmnhfgdiaaGreatDoorProg
set_option linter.all false
set_option maxHeartbeats 8000000
noncomputable section
namespace Go.V
open Go.Proofs.Tryz
open Go.Proofs
def zEA:Cfg:=zG [] []
def mu9 (t:Tmp):zEA.mu t=xc [] t:=(rfl)
def ok9:zb prog zEA f9=true:=by kernel_rfl
def AQ:Cfg:=zG [19] []
def zIL:zb prog AQ f15=true:=by kernel_rfl
def EQ:Cfg:=zG [] []
def zIM (t:Tmp):EQ.mu t=xc [] t:=(rfl)
def zIN:zb prog EQ f21=true:=by kernel_rfl
def ER:Cfg:=zG [] []
def Ga (t:Tmp):ER.mu t=xc [] t:=(rfl)
def zIO:zb prog ER f27=true:=by kernel_rfl
def Jb:Cfg:=zG [] []
def ZM (t:Tmp):Jb.mu t=xc [] t:=(rfl)
def zHQ:zb prog Jb f39=true:=by kernel_rfl
def ES:Cfg:=zG [] []
def zHR:zb prog ES f45=true:=by kernel_rfl
def AR:Cfg:=zG [] []
def zIP:zb prog AR f51=true:=by kernel_rfl
def AS:Cfg:=zG [] []
def zIQ:zb prog AS f57=true:=by kernel_rfl
def Jc:Cfg:=zG [] []
def zEB (t:Tmp):Jc.mu t=xc [] t:=(rfl)
def zHS:zb prog Jc f63=true:=by kernel_rfl
def ET:Cfg:=zG [] [(10,nr 0 12)]
def W9 (t:Tmp):ET.mu t=xc [] t:=(rfl)
def zIR:zb prog ET f69=true:=by kernel_rfl
def AT:Cfg:=zG [] []
def zIS:zb prog AT f75=true:=by kernel_rfl
def Jd:Cfg:=zG [] []
def zIT (t:Tmp):Jd.mu t=xc [] t:=(rfl)
def zHT:zb prog Jd f81=true:=by kernel_rfl
def Je:Cfg:=zG [5] [(1,[(0, .no),(1, .no),(3, .no),(4, .st),(2, .no),(6, .no),(5, .no)]++nr 7 3),(3,[(0, .no),(1, .st)]++nr 2 14),(4,nr 0 20)]
def EU (t:Tmp):Je.mu t=xc [5] t:=(rfl)
def zHU:zb prog Je f87=true:=by kernel_rfl
def EV:Cfg:=zG [] []
def zHV:zb prog EV f93=true:=by kernel_rfl
def AU:Cfg:=zG [] [(3,[(0, .no),(1, .no),(2, .st),(4, .no),(5, .no),(6, .st),(9, .no),(10, .no),(11, .st),(14, .no),(15, .no),(16, .st),(3, .st),(7, .st),(8, .st),(12, .st),(13, .st),(17, .st)]++nr 18 3),(6,nr 0 7),(7,[(6, .no)]++nr 0 6++nr 7 6)]
def zIU:zb prog AU f99=true:=by kernel_rfl
def P0:Cfg:=zG [] []
def AV:zb prog P0 f105=true:=by kernel_rfl
def Uj:Cfg:=zG [] [(16,nr 0 8++ [(13, .no)]++nr 8 5++nr 14 4)]
def Yw (t:Tmp):Uj.mu t=xc [] t:=(rfl)
def AW:zb prog Uj f111=true:=by kernel_rfl
def Uk:Cfg:=zG [] []
def VA (t:Tmp):Uk.mu t=xc [] t:=(rfl)
def AX:zb prog Uk f117=true:=by kernel_rfl
def Yx:Cfg:=zG [] []
def Jf (t:Tmp):Yx.mu t=xc [] t:=(rfl)
def AY:zb prog Yx f123=true:=by kernel_rfl
def Gb:Cfg:=zG [] []
def zEC:zb prog Gb f148=true:=by kernel_rfl
def Ul:Cfg:=zG [7] []
def zED (t:Tmp):Ul.mu t=xc [7] t:=(rfl)
def AZ:zb prog Ul f154=true:=by kernel_rfl
def Um:Cfg:=zG [7] []
def zEE (t:Tmp):Um.mu t=xc [7] t:=(rfl)
def Aa:zb prog Um f160=true:=by kernel_rfl
def Un:Cfg:=zG [] []
def zEF (t:Tmp):Un.mu t=xc [] t:=(rfl)
def Ab:zb prog Un f166=true:=by kernel_rfl
def P1:Cfg:=zG [] []
def Jg (t:Tmp):P1.mu t=xc [] t:=(rfl)
def zEG:zb prog P1 f172=true:=by kernel_rfl
def Gc:Cfg:=zG [] []
def zEH:zb prog Gc f180=true:=by kernel_rfl
def Gd:Cfg:=zG [] [(4,nr 0 17),(6,nr 0 18)]
def zEI:zb prog Gd f186=true:=by kernel_rfl
def P2:Cfg:=zG [] []
def zEJ (t:Tmp):P2.mu t=xc [] t:=(rfl)
def zEK:zb prog P2 f192=true:=by kernel_rfl
def Uo:Cfg:=zG [] []
def ZN (t:Tmp):Uo.mu t=xc [] t:=(rfl)
def Ac:zb prog Uo f198=true:=by kernel_rfl
def bU:Cfg:=zG [] [(6,nr 0 19)]
def fN (t:Tmp):bU.mu t=xc [] t:=(rfl)
def Ad:zb prog bU f217=true:=by kernel_rfl
def Up:Cfg:=zG [] []
def zEL (t:Tmp):Up.mu t=xc [] t:=(rfl)
def Ae:zb prog Up f223=true:=by kernel_rfl
def Uq:Cfg:=zG [] []
def zEM (t:Tmp):Uq.mu t=xc [] t:=(rfl)
def Af:zb prog Uq f229=true:=by kernel_rfl
def P3:Cfg:=zG [] []
def zEN (t:Tmp):P3.mu t=xc [] t:=(rfl)
def zEO:zb prog P3 f235=true:=by kernel_rfl
def P4:Cfg:=zG [] []
def Ag (t:Tmp):P4.mu t=xc [] t:=(rfl)
def zEP:zb prog P4 f241=true:=by kernel_rfl
def P5:Cfg:=zG [] [(11,nr 0 20),(16,nr 0 12)]
def fO (t:Tmp):P5.mu t=xc [] t:=(rfl)
def zEQ:zb prog P5 f261=true:=by kernel_rfl
def P6:Cfg:=zG [] []
def P7 (t:Tmp):P6.mu t=xc [] t:=(rfl)
def zER:zb prog P6 f267=true:=by kernel_rfl
def P8:Cfg:=zG [] [(1,[(2, .no),(0, .no),(1, .no)]++nr 3 10)]
def Ah (t:Tmp):P8.mu t=xc [] t:=(rfl)
def zES:zb prog P8 f279=true:=by kernel_rfl
def Ge:Cfg:=zG [] []
def zET:zb prog Ge f315=true:=by kernel_rfl
def P9:Cfg:=zG [] []
def VB (t:Tmp):P9.mu t=xc [] t:=(rfl)
def zEU:zb prog P9 f324=true:=by kernel_rfl
def ND:Cfg:=zG [] []
def VC (t:Tmp):ND.mu t=xc [] t:=(rfl)
def zEV:zb prog ND f330=true:=by kernel_rfl
def NE:Cfg:=zG [] []
def ZO (t:Tmp):NE.mu t=xc [] t:=(rfl)
def zEW:zb prog NE f336=true:=by kernel_rfl
def Ur:Cfg:=zG [] []
def kK (t:Tmp):Ur.mu t=xc [] t:=(rfl)
def Ai:zb prog Ur f342=true:=by kernel_rfl
def NF:Cfg:=zG [] []
def Aj:zb prog NF f348=true:=by kernel_rfl
def NG:Cfg:=zG [] []
def NH (t:Tmp):NG.mu t=xc [] t:=(rfl)
def zEX:zb prog NG f372=true:=by kernel_rfl
def Us:Cfg:=zG [] []
def zEY (t:Tmp):Us.mu t=xc [] t:=(rfl)
def Ak:zb prog Us f390=true:=by kernel_rfl
def Ut:Cfg:=zG [] [(4,nr 0 6)]
def VD (t:Tmp):Ut.mu t=xc [] t:=(rfl)
def Al:zb prog Ut f408=true:=by kernel_rfl
def zEZ:Cfg:=zG [] []
def mu4 (t:Tmp):zEZ.mu t=xc [] t:=(rfl)
def ok4:zb prog zEZ f4=true:=by kernel_rfl
def Jh:Cfg:=zG [] []
def EW (t:Tmp):Jh.mu t=xc [] t:=(rfl)
def zHW:zb prog Jh f10=true:=by kernel_rfl
def EX:Cfg:=zG [] [(12,nr 0 23)]
def Gf (t:Tmp):EX.mu t=xc [] t:=(rfl)
def zIV:zb prog EX f28=true:=by kernel_rfl
def Ji:Cfg:=zG [] [(10,nr 0 11),(16,nr 0 8)]
def NI (t:Tmp):Ji.mu t=xc [] t:=(rfl)
def zHX:zb prog Ji f40=true:=by kernel_rfl
def EY:Cfg:=zG [] []
def Am (t:Tmp):EY.mu t=xc [] t:=(rfl)
def zIW:zb prog EY f46=true:=by kernel_rfl
def Jj:Cfg:=zG [] []
def zEa (t:Tmp):Jj.mu t=xc [] t:=(rfl)
def zHY:zb prog Jj f52=true:=by kernel_rfl
def EZ:Cfg:=zG [] [(1,nr 0 4++ [(5, .no),(6, .st),(7, .no),(8, .st),(4, .no)]++nr 9 4)]
def zHZ (t:Tmp):EZ.mu t=xc [] t:=(rfl)
def zIX:zb prog EZ f58=true:=by kernel_rfl
def Jk:Cfg:=zG [] [(10,nr 0 5++ [(5, .st)]++nr 6 13++ [(19, .st)]++nr 20 21)]
def K2 (t:Tmp):Jk.mu t=xc [] t:=(rfl)
def zHa:zb prog Jk f64=true:=by kernel_rfl
def Jl:Cfg:=zG [] []
def zIY (t:Tmp):Jl.mu t=xc [] t:=(rfl)
def zHb:zb prog Jl f76=true:=by kernel_rfl
def Jm:Cfg:=zG [] [(3,[(0, .st)]++nr 1 3)]
def zC0 (t:Tmp):Jm.mu t=xc [] t:=(rfl)
def zHc:zb prog Jm f82=true:=by kernel_rfl
def Jn:Cfg:=zG [] [(1,nr 0 3++ [(3, .st)]++nr 4 5++ [(9, .st)]++nr 10 5)]
def Ea (t:Tmp):Jn.mu t=xc [] t:=(rfl)
def zHd:zb prog Jn f88=true:=by kernel_rfl
def Jo:Cfg:=zG [31] []
def zIZ (t:Tmp):Jo.mu t=xc [31] t:=(rfl)
def zHe:zb prog Jo f94=true:=by kernel_rfl
def NJ:Cfg:=zG [] []
def An:zb prog NJ f106=true:=by kernel_rfl
def NK:Cfg:=zG [] [(9,nr 0 9++ [(14, .no)]++nr 9 5++nr 15 4)]
def Yy (t:Tmp):NK.mu t=xc [] t:=(rfl)
def zEb:zb prog NK f112=true:=by kernel_rfl
def Uu:Cfg:=zG [] [(1,nr 0 12)]
def Ao (t:Tmp):Uu.mu t=xc [] t:=(rfl)
def Ap:zb prog Uu f118=true:=by kernel_rfl
def Uv:Cfg:=zG [] []
def zEc (t:Tmp):Uv.mu t=xc [] t:=(rfl)
def Aq:zb prog Uv f124=true:=by kernel_rfl
def NL:Cfg:=zG [] [(8,nr 0 7)]
def R0 (t:Tmp):NL.mu t=xc [] t:=(rfl)
def zEd:zb prog NL f136=true:=by kernel_rfl
def Uw:Cfg:=zG [] []
def NM (t:Tmp):Uw.mu t=xc [] t:=(rfl)
def Ar:zb prog Uw f149=true:=by kernel_rfl
def Ux:Cfg:=zG [] []
def zEe (t:Tmp):Ux.mu t=xc [] t:=(rfl)
def As:zb prog Ux f155=true:=by kernel_rfl
def Uy:Cfg:=zG [] []
def zEf (t:Tmp):Uy.mu t=xc [] t:=(rfl)
def Au:zb prog Uy f161=true:=by kernel_rfl
def Uz:Cfg:=zG [] []
def Av (t:Tmp):Uz.mu t=xc [] t:=(rfl)
def Aw:zb prog Uz f167=true:=by kernel_rfl
def Gg:Cfg:=zG [] []
def zEg:zb prog Gg f174=true:=by kernel_rfl
def Gh:Cfg:=zG [] []
def zEh:zb prog Gh f181=true:=by kernel_rfl
def U0:Cfg:=zG [] []
def zEi (t:Tmp):U0.mu t=xc [] t:=(rfl)
def Ax:zb prog U0 f193=true:=by kernel_rfl
def U3:Cfg:=zG [] []
def zEj (t:Tmp):U3.mu t=xc [] t:=(rfl)
def Ay:zb prog U3 f199=true:=by kernel_rfl
def bV:Cfg:=zG [] [(3,nr 0 10),(6,[(0, .no),(9, .no)]++nr 1 8++nr 10 10),(7,nr 0 34),(8,[(0, .no),(1, .no),(8, .no)]++nr 2 6++nr 9 7)]
def mj (t:Tmp):bV.mu t=xc [] t:=(rfl)
def Az:zb prog bV f218=true:=by kernel_rfl
def NN:Cfg:=zG [] []
def A0:zb prog NN f224=true:=by kernel_rfl
def U4:Cfg:=zG [] []
def Yz (t:Tmp):U4.mu t=xc [] t:=(rfl)
def A1:zb prog U4 f230=true:=by kernel_rfl
def NO:Cfg:=zG [] [(1,nr 0 4++ [(5, .no),(6, .st),(7, .no),(8, .st),(4, .no)]++nr 9 4)]
def A2 (t:Tmp):NO.mu t=xc [] t:=(rfl)
def zEk:zb prog NO f236=true:=by kernel_rfl
def U5:Cfg:=zG [2] []
def NP (t:Tmp):U5.mu t=xc [2] t:=(rfl)
def zEl:zb prog U5 f242=true:=by kernel_rfl
def NQ:Cfg:=zG [] [(11,nr 0 8),(16,nr 0 12),(18,nr 0 3++ [(9, .no)]++nr 3 6++nr 10 3)]
def jk (t:Tmp):NQ.mu t=xc [] t:=(rfl)
def zEm:zb prog NQ f262=true:=by kernel_rfl
def NR:Cfg:=zG [] []
def A3 (t:Tmp):NR.mu t=xc [] t:=(rfl)
def zEn:zb prog NR f268=true:=by kernel_rfl
def U6:Cfg:=zG [] []
def zEo (t:Tmp):U6.mu t=xc [] t:=(rfl)
def A4:zb prog U6 f274=true:=by kernel_rfl
def U7:Cfg:=zG [] [(7,nr 0 9)]
def cP (t:Tmp):U7.mu t=xc [] t:=(rfl)
def A5:zb prog U7 f280=true:=by kernel_rfl
def NS:Cfg:=zG [] []
def A6:zb prog NS f292=true:=by kernel_rfl
def NT:Cfg:=zG [] []
def VE (t:Tmp):NT.mu t=xc [] t:=(rfl)
def zEp:zb prog NT f298=true:=by kernel_rfl
def NU:Cfg:=zG [] []
def Jp (t:Tmp):NU.mu t=xc [] t:=(rfl)
def zEq:zb prog NU f325=true:=by kernel_rfl
def NV:Cfg:=zG [] []
def NW (t:Tmp):NV.mu t=xc [] t:=(rfl)
def zEr:zb prog NV f331=true:=by kernel_rfl
def NX:Cfg:=zG [] []
def Jq (t:Tmp):NX.mu t=xc [] t:=(rfl)
def zEs:zb prog NX f337=true:=by kernel_rfl
def U8:Cfg:=zG [] []
def ZP (t:Tmp):U8.mu t=xc [] t:=(rfl)
def A7:zb prog U8 f343=true:=by kernel_rfl
def NY:Cfg:=zG [] [(4,nr 0 6)]
def VF (t:Tmp):NY.mu t=xc [] t:=(rfl)
def zEt:zb prog NY f373=true:=by kernel_rfl
def Eb:Cfg:=zG [] []
def C4 (t:Tmp):Eb.mu t=xc [] t:=(rfl)
def zIa:zb prog Eb f11=true:=by kernel_rfl
def Jr:Cfg:=zG [] []
def zC1 (t:Tmp):Jr.mu t=xc [] t:=(rfl)
def zHf:zb prog Jr f17=true:=by kernel_rfl
def Na:Cfg:=zG [] []
def zEu (t:Tmp):Na.mu t=xc [] t:=(rfl)
def zEv:zb prog Na f29=true:=by kernel_rfl
def Nb:Cfg:=zG [] []
def C5 (t:Tmp):Nb.mu t=xc [] t:=(rfl)
def zHg:zb prog Nb f41=true:=by kernel_rfl
def A8:Cfg:=zG [] []
def zIb:zb prog A8 f47=true:=by kernel_rfl
def A9:Cfg:=zG [] []
def zIc:zb prog A9 f53=true:=by kernel_rfl
def Js:Cfg:=zG [] []
def ZQ (t:Tmp):Js.mu t=xc [] t:=(rfl)
def zHh:zb prog Js f59=true:=by kernel_rfl
def Nc:Cfg:=zG [] []
def zHi (t:Tmp):Nc.mu t=xc [] t:=(rfl)
def zEw:zb prog Nc f65=true:=by kernel_rfl
def Jt:Cfg:=zG [] []
def zId (t:Tmp):Jt.mu t=xc [] t:=(rfl)
def zHj:zb prog Jt f77=true:=by kernel_rfl
def R1:Cfg:=zG [40,60] [(2,[(0, .st),(4, .st),(8, .st),(1, .no),(2, .no),(3, .st),(5, .no),(6, .no),(7, .st),(9, .st)]++nr 10 8),(4,[(0, .st),(1, .no),(4, .no),(2, .no),(3, .no)]++nr 5 5),(9,[(0, .st)]++nr 1 9),(13,[(0, .st),(4, .no),(11, .no),(1, .no),(2, .st),(3, .no)]++nr 5 6++nr 12 8),(14,[(0, .st)]++nr 1 7)]
def cE (t:Tmp):R1.mu t=xc [40,60] t:=(rfl)
def zC2:zb prog R1 f83=true:=by kernel_rfl
def Ju:Cfg:=zG [] [(20,nr 0 12)]
def R2 (t:Tmp):Ju.mu t=xc [] t:=(rfl)
def zHk:zb prog Ju f89=true:=by kernel_rfl
def zAA:Cfg:=zG [] []
def zIe:zb prog zAA f95=true:=by kernel_rfl
def Gi:Cfg:=zG [] []
def zEy:zb prog Gi f101=true:=by kernel_rfl
def Gj:Cfg:=zG [] []
def zEz:zb prog Gj f107=true:=by kernel_rfl
def Nf:Cfg:=zG [] [(7,nr 0 26),(11,nr 0 26),(15,nr 0 18),(23,nr 0 18)]
def sX (t:Tmp):Nf.mu t=xc [] t:=(rfl)
def zE0:zb prog Nf f113=true:=by kernel_rfl
def U9:Cfg:=zG [] [(3,[(0, .st)]++nr 1 3)]
def Jv (t:Tmp):U9.mu t=xc [] t:=(rfl)
def zAB:zb prog U9 f119=true:=by kernel_rfl
def TA:Cfg:=zG [] []
def zE1 (t:Tmp):TA.mu t=xc [] t:=(rfl)
def zAC:zb prog TA f125=true:=by kernel_rfl
def Ng:Cfg:=zG [] []
def Jw (t:Tmp):Ng.mu t=xc [] t:=(rfl)
def zE2:zb prog Ng f131=true:=by kernel_rfl
def Nh:Cfg:=zG [] []
def Ni (t:Tmp):Nh.mu t=xc [] t:=(rfl)
def zE3:zb prog Nh f137=true:=by kernel_rfl
def TB:Cfg:=zG [] []
def Nj (t:Tmp):TB.mu t=xc [] t:=(rfl)
def zAD:zb prog TB f150=true:=by kernel_rfl
def TC:Cfg:=zG [] [(1,nr 0 4++ [(5, .no),(6, .st),(7, .no),(8, .st),(4, .no)]++nr 9 4)]
def zAE (t:Tmp):TC.mu t=xc [] t:=(rfl)
def zAF:zb prog TC f156=true:=by kernel_rfl
def TD:Cfg:=zG [] []
def Nk (t:Tmp):TD.mu t=xc [] t:=(rfl)
def zAG:zb prog TD f162=true:=by kernel_rfl
def Nl:Cfg:=zG [44] []
def fP (t:Tmp):Nl.mu t=xc [44] t:=(rfl)
def zE4:zb prog Nl f168=true:=by kernel_rfl
def Nm:Cfg:=zG [] []
def zAH:zb prog Nm f176=true:=by kernel_rfl
def Gk:Cfg:=zG [] [(4,nr 0 17),(6,nr 0 18)]
def zE5:zb prog Gk f182=true:=by kernel_rfl
def Gl:Cfg:=zG [] [(4,nr 0 17),(6,nr 0 18)]
def zE6:zb prog Gl f188=true:=by kernel_rfl
def Nn:Cfg:=zG [] [(4,nr 0 10)]
def VG (t:Tmp):Nn.mu t=xc [] t:=(rfl)
def zE7:zb prog Nn f194=true:=by kernel_rfl
def TE:Cfg:=zG [] []
def No (t:Tmp):TE.mu t=xc [] t:=(rfl)
def zAI:zb prog TE f200=true:=by kernel_rfl
def bW:Cfg:=zG [] [(3,[(0, .no),(4, .no),(8, .no)]++nr 1 3++nr 5 3++nr 9 9),(4,nr 0 4++ [(7, .no)]++nr 4 3++nr 8 6)]
def kL (t:Tmp):bW.mu t=xc [] t:=(rfl)
def zAJ:zb prog bW f219=true:=by kernel_rfl
def Np:Cfg:=zG [] []
def zAK:zb prog Np f225=true:=by kernel_rfl
def TG:Cfg:=zG [] []
def zAL (t:Tmp):TG.mu t=xc [] t:=(rfl)
def zAM:zb prog TG f231=true:=by kernel_rfl
def Nq:Cfg:=zG [] [(6,nr 0 10),(11,nr 0 10)]
def ml (t:Tmp):Nq.mu t=xc [] t:=(rfl)
def zE8:zb prog Nq f237=true:=by kernel_rfl
def Nr:Cfg:=zG [] []
def Y1 (t:Tmp):Nr.mu t=xc [] t:=(rfl)
def zE9:zb prog Nr f243=true:=by kernel_rfl
def Ns:Cfg:=zG [] [(4,nr 0 9++ [(15, .no)]++nr 9 6++nr 16 4)]
def Jx (t:Tmp):Ns.mu t=xc [] t:=(rfl)
def zFA:zb prog Ns f263=true:=by kernel_rfl
def Nt:Cfg:=zG [] [(6,nr 0 8)]
def R3 (t:Tmp):Nt.mu t=xc [] t:=(rfl)
def zFB:zb prog Nt f269=true:=by kernel_rfl
def TH:Cfg:=zG [] [(1,nr 0 9),(4,[(4, .no)]++nr 0 4++nr 5 18++ [(25, .no),(23, .no),(24, .no)])]
def jl (t:Tmp):TH.mu t=xc [] t:=(rfl)
def zAN:zb prog TH f275=true:=by kernel_rfl
def TI:Cfg:=zG [] []
def zFC (t:Tmp):TI.mu t=xc [] t:=(rfl)
def zAO:zb prog TI f281=true:=by kernel_rfl
def Nu:Cfg:=zG [] []
def zAP:zb prog Nu f293=true:=by kernel_rfl
def Nv:Cfg:=zG [] []
def zFD (t:Tmp):Nv.mu t=xc [] t:=(rfl)
def zFE:zb prog Nv f299=true:=by kernel_rfl
def Nw:Cfg:=zG [] []
def zFF (t:Tmp):Nw.mu t=xc [] t:=(rfl)
def zFG:zb prog Nw f326=true:=by kernel_rfl
def Nx:Cfg:=zG [] []
def Jy (t:Tmp):Nx.mu t=xc [] t:=(rfl)
def zFH:zb prog Nx f332=true:=by kernel_rfl
def Ny:Cfg:=zG [] [(8,nr 0 9),(10,nr 0 9)]
def VH (t:Tmp):Ny.mu t=xc [] t:=(rfl)
def zFI:zb prog Ny f338=true:=by kernel_rfl
def TJ:Cfg:=zG [] []
def zAQ (t:Tmp):TJ.mu t=xc [] t:=(rfl)
def zAR:zb prog TJ f344=true:=by kernel_rfl
def Nz:Cfg:=zG [] []
def zFJ (t:Tmp):Nz.mu t=xc [] t:=(rfl)
def zFK:zb prog Nz f386=true:=by kernel_rfl
def N2:Cfg:=zG [] []
def zAS:zb prog N2 f392=true:=by kernel_rfl
def R4:Cfg:=zG [] []
def zAT (t:Tmp):R4.mu t=xc [] t:=(rfl)
def zC3:zb prog R4 f12=true:=by kernel_rfl
def R5:Cfg:=zG [] []
def C6 (t:Tmp):R5.mu t=xc [] t:=(rfl)
def zFL:zb prog R5 f18=true:=by kernel_rfl
def zAU:Cfg:=zG [17] [(7,nr 0 10)]
def zIf:zb prog zAU f24=true:=by kernel_rfl
def R6:Cfg:=zG [] [(12,nr 0 5++ [(8, .no),(12, .no)]++nr 5 3++nr 9 3++nr 13 5)]
def Wa (t:Tmp):R6.mu t=xc [] t:=(rfl)
def zFM:zb prog R6 f30=true:=by kernel_rfl
def zAV:Cfg:=zG [] []
def zIg:zb prog zAV f36=true:=by kernel_rfl
def Jz:Cfg:=zG [] []
def zIh (t:Tmp):Jz.mu t=xc [] t:=(rfl)
def zHl:zb prog Jz f42=true:=by kernel_rfl
def Ec:Cfg:=zG [] []
def zHm:zb prog Ec f48=true:=by kernel_rfl
def Ed:Cfg:=zG [] [(7,nr 0 14),(14,[(1, .no),(0, .no)]++nr 2 8)]
def YF (t:Tmp):Ed.mu t=xc [] t:=(rfl)
def zIi:zb prog Ed f60=true:=by kernel_rfl
def J0:Cfg:=zG [] []
def zAW (t:Tmp):J0.mu t=xc [] t:=(rfl)
def zHn:zb prog J0 f66=true:=by kernel_rfl
def J1:Cfg:=zG [] [(6,nr 0 9)]
def Gm (t:Tmp):J1.mu t=xc [] t:=(rfl)
def zHo:zb prog J1 f78=true:=by kernel_rfl
def J2:Cfg:=zG [] []
def zC4 (t:Tmp):J2.mu t=xc [] t:=(rfl)
def zHp:zb prog J2 f84=true:=by kernel_rfl
def N3:Cfg:=zG [] []
def K3 (t:Tmp):N3.mu t=xc [] t:=(rfl)
def zHq:zb prog N3 f90=true:=by kernel_rfl
def zAX:Cfg:=zG [] []
def zIj:zb prog zAX f96=true:=by kernel_rfl
def TK:Cfg:=zG [] []
def zFN (t:Tmp):TK.mu t=xc [] t:=(rfl)
def zAY:zb prog TK f102=true:=by kernel_rfl
def TL:Cfg:=zG [] [(14,nr 0 13)]
def uO (t:Tmp):TL.mu t=xc [] t:=(rfl)
def zAZ:zb prog TL f108=true:=by kernel_rfl
def N4:Cfg:=zG [] []
def zAa (t:Tmp):N4.mu t=xc [] t:=(rfl)
def zFO:zb prog N4 f114=true:=by kernel_rfl
def bX:Cfg:=zG [] [(7,[(0, .st),(2, .no),(3, .no),(1, .no)]++nr 4 6)]
def mo (t:Tmp):bX.mu t=xc [] t:=(rfl)
def J3:zb prog bX f120=true:=by kernel_rfl
def TM:Cfg:=zG [] []
def jm (t:Tmp):TM.mu t=xc [] t:=(rfl)
def zAb:zb prog TM f151=true:=by kernel_rfl
def Y2:Cfg:=zG [] [(6,nr 0 11),(11,nr 0 12)]
def nk (t:Tmp):Y2.mu t=xc [] t:=(rfl)
def Ee:zb prog Y2 f157=true:=by kernel_rfl
def N5:Cfg:=zG [] []
def zAc:zb prog N5 f163=true:=by kernel_rfl
def N6:Cfg:=zG [] []
def zAd (t:Tmp):N6.mu t=xc [] t:=(rfl)
def zFP:zb prog N6 f169=true:=by kernel_rfl
def Gn:Cfg:=zG [] [(4,nr 0 5)]
def zFQ:zb prog Gn f177=true:=by kernel_rfl
def TN:Cfg:=zG [] [(4,nr 0 10)]
def VI (t:Tmp):TN.mu t=xc [] t:=(rfl)
def zAe:zb prog TN f195=true:=by kernel_rfl
def Y3:Cfg:=zG [] [(14,[(0, .st),(1, .no),(2, .st),(3, .no),(4, .no),(5, .st),(6, .sq)]++nr 7 6),(20,nr 0 12)]
def mq (t:Tmp):Y3.mu t=xc [] t:=(rfl)
def Ef:zb prog Y3 f207=true:=by kernel_rfl
def Y4:Cfg:=zG [] []
def N7 (t:Tmp):Y4.mu t=xc [] t:=(rfl)
def zAf:zb prog Y4 f220=true:=by kernel_rfl
def N8:Cfg:=zG [] []
def zAg:zb prog N8 f226=true:=by kernel_rfl
def TO:Cfg:=zG [] []
def Y5 (t:Tmp):TO.mu t=xc [] t:=(rfl)
def zAh:zb prog TO f232=true:=by kernel_rfl
def N9:Cfg:=zG [] [(11,nr 0 19)]
def kM (t:Tmp):N9.mu t=xc [] t:=(rfl)
def zFR:zb prog N9 f258=true:=by kernel_rfl
def MA:Cfg:=zG [76] [(14,nr 0 32),(19,nr 0 15),(21,nr 0 18)]
def sY (t:Tmp):MA.mu t=xc [76] t:=(rfl)
def zFS:zb prog MA f270=true:=by kernel_rfl
def MB:Cfg:=zG [] []
def zFT (t:Tmp):MB.mu t=xc [] t:=(rfl)
def zFU:zb prog MB f276=true:=by kernel_rfl
def TP:Cfg:=zG [] [(1,[(2, .no),(6, .no),(0, .no),(1, .no)]++nr 3 3++nr 7 5)]
def zAi (t:Tmp):TP.mu t=xc [] t:=(rfl)
def zAj:zb prog TP f282=true:=by kernel_rfl
def TQ:Cfg:=zG [] []
def zAk (t:Tmp):TQ.mu t=xc [] t:=(rfl)
def zAl:zb prog TQ f294=true:=by kernel_rfl
def MC:Cfg:=zG [] []
def zFV (t:Tmp):MC.mu t=xc [] t:=(rfl)
def zFW:zb prog MC f300=true:=by kernel_rfl
def MD:Cfg:=zG [] []
def zFX (t:Tmp):MD.mu t=xc [] t:=(rfl)
def zFY:zb prog MD f327=true:=by kernel_rfl
def ME:Cfg:=zG [] []
def MF (t:Tmp):ME.mu t=xc [] t:=(rfl)
def zFZ:zb prog ME f333=true:=by kernel_rfl
def bY:Cfg:=zG [] [(4,[(0, .no),(4, .no)]++nr 1 3++nr 5 6)]
def kN (t:Tmp):bY.mu t=xc [] t:=(rfl)
def zAm:zb prog bY f339=true:=by kernel_rfl
def MG:Cfg:=zG [] [(6,[(4, .no)]++nr 0 4++ [(5, .no)]),(8,nr 0 10)]
def pI (t:Tmp):MG.mu t=xc [] t:=(rfl)
def zFa:zb prog MG f387=true:=by kernel_rfl
def zAn:Cfg:=zG [] []
def zIk:zb prog zAn f19=true:=by kernel_rfl
def zAo:Cfg:=zG [] [(6,nr 0 9)]
def zIl:zb prog zAo f25=true:=by kernel_rfl
def J4:Cfg:=zG [] [(6,nr 0 10),(11,nr 0 10)]
def TR (t:Tmp):J4.mu t=xc [] t:=(rfl)
def zHr:zb prog J4 f37=true:=by kernel_rfl
def J5:Cfg:=zG [] []
def Eg (t:Tmp):J5.mu t=xc [] t:=(rfl)
def zHs:zb prog J5 f43=true:=by kernel_rfl
def zAp:Cfg:=zG [] []
def zIm:zb prog zAp f49=true:=by kernel_rfl
def zAq:Cfg:=zG [] []
def zIn:zb prog zAq f55=true:=by kernel_rfl
def Eh:Cfg:=zG [] []
def zC5 (t:Tmp):Eh.mu t=xc [] t:=(rfl)
def zIo:zb prog Eh f61=true:=by kernel_rfl
def J6:Cfg:=zG [] []
def zIp (t:Tmp):J6.mu t=xc [] t:=(rfl)
def zHt:zb prog J6 f79=true:=by kernel_rfl
def J7:Cfg:=zG [] []
def C7 (t:Tmp):J7.mu t=xc [] t:=(rfl)
def zHu:zb prog J7 f85=true:=by kernel_rfl
def R7:Cfg:=zG [] []
def fQ (t:Tmp):R7.mu t=xc [] t:=(rfl)
def zC6:zb prog R7 f91=true:=by kernel_rfl
def zAr:Cfg:=zG [] [(7,nr 0 12),(9,nr 0 17),(11,nr 0 21)]
def zIq:zb prog zAr f97=true:=by kernel_rfl
def Gp:Cfg:=zG [] []
def zFb:zb prog Gp f103=true:=by kernel_rfl
def TS:Cfg:=zG [] []
def J8 (t:Tmp):TS.mu t=xc [] t:=(rfl)
def zAs:zb prog TS f109=true:=by kernel_rfl
def MH:Cfg:=zG [] []
def zFc (t:Tmp):MH.mu t=xc [] t:=(rfl)
def zFd:zb prog MH f115=true:=by kernel_rfl
def Y6:Cfg:=zG [] [(3,nr 0 13)]
def Ei (t:Tmp):Y6.mu t=xc [] t:=(rfl)
def Ej:zb prog Y6 f121=true:=by kernel_rfl
def MI:Cfg:=zG [] [(3,[(2, .no),(0, .no),(1, .st)]++nr 3 6)]
def MJ (t:Tmp):MI.mu t=xc [] t:=(rfl)
def zFe:zb prog MI f127=true:=by kernel_rfl
def Gq:Cfg:=zG [] [(4,nr 0 15),(6,nr 0 18)]
def zFf:zb prog Gq f139=true:=by kernel_rfl
def TT:Cfg:=zG [] []
def zAt (t:Tmp):TT.mu t=xc [] t:=(rfl)
def zAu:zb prog TT f152=true:=by kernel_rfl
def Gr:Cfg:=zG [7] []
def zFg:zb prog Gr f158=true:=by kernel_rfl
def TU:Cfg:=zG [] []
def J9 (t:Tmp):TU.mu t=xc [] t:=(rfl)
def zAv:zb prog TU f164=true:=by kernel_rfl
def MK:Cfg:=zG [24] []
def jo (t:Tmp):MK.mu t=xc [24] t:=(rfl)
def zFh:zb prog MK f170=true:=by kernel_rfl
def Gs:Cfg:=zG [] []
def zFi:zb prog Gs f178=true:=by kernel_rfl
def Gt:Cfg:=zG [] [(4,nr 0 17),(6,nr 0 18)]
def zFj:zb prog Gt f184=true:=by kernel_rfl
def TV:Cfg:=zG [] []
def zAw (t:Tmp):TV.mu t=xc [] t:=(rfl)
def zAx:zb prog TV f190=true:=by kernel_rfl
def TW:Cfg:=zG [] []
def VK (t:Tmp):TW.mu t=xc [] t:=(rfl)
def zAy:zb prog TW f196=true:=by kernel_rfl
def ML:Cfg:=zG [] []
def rH (t:Tmp):ML.mu t=xc [] t:=(rfl)
def zFk:zb prog ML f202=true:=by kernel_rfl
def MM:Cfg:=zG [] []
def MN (t:Tmp):MM.mu t=xc [] t:=(rfl)
def zFl:zb prog MM f208=true:=by kernel_rfl
def Y7:Cfg:=zG [] []
def R8 (t:Tmp):Y7.mu t=xc [] t:=(rfl)
def zAz:zb prog Y7 f215=true:=by kernel_rfl
def TX:Cfg:=zG [] [(17,nr 0 17)]
def Ek (t:Tmp):TX.mu t=xc [] t:=(rfl)
def zA0:zb prog TX f221=true:=by kernel_rfl
def Y8:Cfg:=zG [] []
def MO (t:Tmp):Y8.mu t=xc [] t:=(rfl)
def zA1:zb prog Y8 f227=true:=by kernel_rfl
def MP:Cfg:=zG [] []
def zFm (t:Tmp):MP.mu t=xc [] t:=(rfl)
def zFn:zb prog MP f239=true:=by kernel_rfl
def Gu:Cfg:=zG [] []
def zFo:zb prog Gu f250=true:=by kernel_rfl
def TY:Cfg:=zG [] []
def MQ (t:Tmp):TY.mu t=xc [] t:=(rfl)
def zA2:zb prog TY f259=true:=by kernel_rfl
def MR:Cfg:=zG [] []
def El (t:Tmp):MR.mu t=xc [] t:=(rfl)
def zFp:zb prog MR f271=true:=by kernel_rfl
def TZ:Cfg:=zG [] []
def zFq (t:Tmp):TZ.mu t=xc [] t:=(rfl)
def zA3:zb prog TZ f277=true:=by kernel_rfl
def MS:Cfg:=zG [] []
def zFr (t:Tmp):MS.mu t=xc [] t:=(rfl)
def zFs:zb prog MS f283=true:=by kernel_rfl
def MT:Cfg:=zG [] []
def zFt (t:Tmp):MT.mu t=xc [] t:=(rfl)
def zFu:zb prog MT f301=true:=by kernel_rfl
def MU:Cfg:=zG [] [(6,nr 0 20)]
def R9 (t:Tmp):MU.mu t=xc [] t:=(rfl)
def zFv:zb prog MU f328=true:=by kernel_rfl
def Y9:Cfg:=zG [] []
def XA (t:Tmp):Y9.mu t=xc [] t:=(rfl)
def Em:zb prog Y9 f334=true:=by kernel_rfl
def Ta:Cfg:=zG [] []
def zFw (t:Tmp):Ta.mu t=xc [] t:=(rfl)
def zA4:zb prog Ta f340=true:=by kernel_rfl
def MV:Cfg:=zG [] [(4,[(4, .no)]++nr 0 4++ [(5, .no)])]
def MW (t:Tmp):MV.mu t=xc [] t:=(rfl)
def zFx:zb prog MV f388=true:=by kernel_rfl
def zHv:Cfg:=zG [] [(4,[(0, .st),(1, .no),(2, .no),(3, .st)]++nr 4 6),(5,nr 0 9)]
def ok8:zb prog zHv f8=true:=by kernel_rfl
def zA5:Cfg:=zG [] [(6,nr 0 9)]
def zIr:zb prog zA5 f14=true:=by kernel_rfl
def IA:Cfg:=zG [] []
def MX (t:Tmp):IA.mu t=xc [] t:=(rfl)
def zHw:zb prog IA f20=true:=by kernel_rfl
def En:Cfg:=zG [] []
def IB (t:Tmp):En.mu t=xc [] t:=(rfl)
def zIs:zb prog En f26=true:=by kernel_rfl
def IC:Cfg:=zG [] []
def zFy (t:Tmp):IC.mu t=xc [] t:=(rfl)
def zHx:zb prog IC f44=true:=by kernel_rfl
def zA6:Cfg:=zG [] []
def zIt:zb prog zA6 f50=true:=by kernel_rfl
def Eo:Cfg:=zG [] [(1,nr 0 4++ [(5, .no),(6, .st),(7, .no),(8, .st),(10, .no),(11, .st),(12, .no),(13, .st),(15, .no),(16, .st),(17, .no),(18, .st),(4, .no),(9, .no),(14, .no)]++nr 19 4)]
def zHy (t:Tmp):Eo.mu t=xc [] t:=(rfl)
def zIu:zb prog Eo f56=true:=by kernel_rfl
def Ep:Cfg:=zG [] []
def MY (t:Tmp):Ep.mu t=xc [] t:=(rfl)
def zIv:zb prog Ep f62=true:=by kernel_rfl
def zA7:Cfg:=zG [] [(17,nr 0 15)]
def zIw:zb prog zA7 f74=true:=by kernel_rfl
def ID:Cfg:=zG [] []
def zIx (t:Tmp):ID.mu t=xc [] t:=(rfl)
def zHz:zb prog ID f80=true:=by kernel_rfl
def MZ:Cfg:=zG [] []
def zH0 (t:Tmp):MZ.mu t=xc [] t:=(rfl)
def zFz:zb prog MZ f86=true:=by kernel_rfl
def Er:Cfg:=zG [] []
def zH1:zb prog Er f92=true:=by kernel_rfl
def Gv:Cfg:=zG [] []
def zF0:zb prog Gv f104=true:=by kernel_rfl
def Ma:Cfg:=zG [] [(9,nr 0 25)]
def IE (t:Tmp):Ma.mu t=xc [] t:=(rfl)
def zF1:zb prog Ma f110=true:=by kernel_rfl
def Tb:Cfg:=zG [] []
def IF (t:Tmp):Tb.mu t=xc [] t:=(rfl)
def zA8:zb prog Tb f116=true:=by kernel_rfl
def Tc:Cfg:=zG [] []
def zF2 (t:Tmp):Tc.mu t=xc [] t:=(rfl)
def zA9:zb prog Tc f122=true:=by kernel_rfl
def Td:Cfg:=zG [16] [(2,[(0, .st),(1, .no),(2, .st)]++nr 3 6)]
def IG (t:Tmp):Td.mu t=xc [16] t:=(rfl)
def zBA:zb prog Td f153=true:=by kernel_rfl
def Gw:Cfg:=zG [7] []
def zF3:zb prog Gw f159=true:=by kernel_rfl
def XB:Cfg:=zG [] []
def ZR (t:Tmp):XB.mu t=xc [] t:=(rfl)
def zBB:zb prog XB f165=true:=by kernel_rfl
def Mb:Cfg:=zG [] []
def zBC (t:Tmp):Mb.mu t=xc [] t:=(rfl)
def zF4:zb prog Mb f171=true:=by kernel_rfl
def Gx:Cfg:=zG [] []
def zF5:zb prog Gx f179=true:=by kernel_rfl
def Te:Cfg:=zG [] []
def zBD (t:Tmp):Te.mu t=xc [] t:=(rfl)
def zBE:zb prog Te f191=true:=by kernel_rfl
def Mc:Cfg:=zG [] [(10,nr 0 12)]
def XC (t:Tmp):Mc.mu t=xc [] t:=(rfl)
def zF6:zb prog Mc f197=true:=by kernel_rfl
def Md:Cfg:=zG [] []
def Me (t:Tmp):Md.mu t=xc [] t:=(rfl)
def zF7:zb prog Md f203=true:=by kernel_rfl
def XD:Cfg:=zG [] [(14,nr 0 12)]
def rI (t:Tmp):XD.mu t=xc [] t:=(rfl)
def Es:zb prog XD f209=true:=by kernel_rfl
def XE:Cfg:=zG [] [(3,[(0, .st),(4, .st),(1, .no),(2, .no),(3, .st),(5, .no),(6, .no),(7, .st),(8, .no),(9, .st),(10, .no),(11, .no),(12, .st),(13, .st)]++nr 14 6)]
def ZS (t:Tmp):XE.mu t=xc [] t:=(rfl)
def zBF:zb prog XE f216=true:=by kernel_rfl
def Tf:Cfg:=zG [] []
def VL (t:Tmp):Tf.mu t=xc [] t:=(rfl)
def zBG:zb prog Tf f222=true:=by kernel_rfl
def Tg:Cfg:=zG [] []
def IH (t:Tmp):Tg.mu t=xc [] t:=(rfl)
def zBH:zb prog Tg f228=true:=by kernel_rfl
def Mf:Cfg:=zG [] []
def zF8 (t:Tmp):Mf.mu t=xc [] t:=(rfl)
def zF9:zb prog Mf f234=true:=by kernel_rfl
def Mg:Cfg:=zG [] []
def zGA (t:Tmp):Mg.mu t=xc [] t:=(rfl)
def zGB:zb prog Mg f240=true:=by kernel_rfl
def Mh:Cfg:=zG [] [(10,nr 0 14),(15,nr 0 20)]
def fR (t:Tmp):Mh.mu t=xc [] t:=(rfl)
def zGC:zb prog Mh f260=true:=by kernel_rfl
def Mi:Cfg:=zG [] [(1,nr 0 20)]
def zBI (t:Tmp):Mi.mu t=xc [] t:=(rfl)
def zGD:zb prog Mi f266=true:=by kernel_rfl
def Mj:Cfg:=zG [] [(8,nr 0 13)]
def cQ (t:Tmp):Mj.mu t=xc [] t:=(rfl)
def zGE:zb prog Mj f272=true:=by kernel_rfl
def Th:Cfg:=zG [] []
def zGF (t:Tmp):Th.mu t=xc [] t:=(rfl)
def zBJ:zb prog Th f278=true:=by kernel_rfl
def Ti:Cfg:=zG [] [(4,nr 0 17),(6,nr 0 18)]
def Et (t:Tmp):Ti.mu t=xc [] t:=(rfl)
def zBK:zb prog Ti f284=true:=by kernel_rfl
def Mk:Cfg:=zG [] []
def Ml (t:Tmp):Mk.mu t=xc [] t:=(rfl)
def zGG:zb prog Mk f323=true:=by kernel_rfl
def Mm:Cfg:=zG [] [(6,nr 0 12)]
def QA (t:Tmp):Mm.mu t=xc [] t:=(rfl)
def zGH:zb prog Mm f329=true:=by kernel_rfl
def Mn:Cfg:=zG [] []
def zBL (t:Tmp):Mn.mu t=xc [] t:=(rfl)
def zGI:zb prog Mn f335=true:=by kernel_rfl
def Tj:Cfg:=zG [] [(1,[(2, .no),(6, .no),(0, .no),(1, .no)]++nr 3 3++nr 7 5)]
def zBM (t:Tmp):Tj.mu t=xc [] t:=(rfl)
def zBN:zb prog Tj f341=true:=by kernel_rfl
def Mo:Cfg:=zG [] []
def zGJ (t:Tmp):Mo.mu t=xc [] t:=(rfl)
def zGK:zb prog Mo f389=true:=by kernel_rfl
set_option maxRecDepth 100000
def tab:List (Nat× (Func×Cfg)):=[(8,(f8,zHv)),(12,(f12,R4)),(14,(f14,zA5)),(15,(f15,AQ)),(17,(f17,Jr)),(18,(f18,R5)),(19,(f19,zAn)),(20,(f20,IA)),(24,(f24,zAU)),(25,(f25,zAo)),(29,(f29,Na)),(30,(f30,R6)),(36,(f36,zAV)),(37,(f37,J4)),(39,(f39,Jb)),(40,(f40,Ji)),(41,(f41,Nb)),(42,(f42,Jz)),(43,(f43,J5)),(44,(f44,IC)),(45,(f45,ES)),(47,(f47,A8)),(48,(f48,Ec)),(49,(f49,zAp)),(50,(f50,zA6)),(51,(f51,AR)),(52,(f52,Jj)),(53,(f53,A9)),(55,(f55,zAq)),(57,(f57,AS)),(59,(f59,Js)),(63,(f63,Jc)),(64,(f64,Jk)),(65,(f65,Nc)),(66,(f66,J0)),(74,(f74,zA7)),(75,(f75,AT)),(76,(f76,Jl)),(77,(f77,Jt)),(78,(f78,J1)),(79,(f79,J6)),(80,(f80,ID)),(81,(f81,Jd)),(82,(f82,Jm)),(83,(f83,R1)),(84,(f84,J2)),(85,(f85,J7)),(86,(f86,MZ)),(87,(f87,Je)),(88,(f88,Jn)),(89,(f89,Ju)),(90,(f90,N3)),(91,(f91,R7)),(92,(f92,Er)),(93,(f93,EV)),(94,(f94,Jo)),(95,(f95,zAA)),(96,(f96,zAX)),(97,(f97,zAr)),(99,(f99,AU)),(101,(f101,Gi)),(102,(f102,TK)),(103,(f103,Gp)),(104,(f104,Gv)),(105,(f105,P0)),(106,(f106,NJ)),(107,(f107,Gj)),(108,(f108,TL)),(109,(f109,TS)),(111,(f111,Uj)),(116,(f116,Tb)),(117,(f117,Uk)),(118,(f118,Uu)),(119,(f119,U9)),(120,(f120,bX)),(121,(f121,Y6)),(122,(f122,Tc)),(123,(f123,Yx)),(124,(f124,Uv)),(125,(f125,TA)),(139,(f139,Gq)),(148,(f148,Gb)),(149,(f149,Uw)),(150,(f150,TB)),(151,(f151,TM)),(152,(f152,TT)),(153,(f153,Td)),(154,(f154,Ul)),(155,(f155,Ux)),(156,(f156,TC)),(157,(f157,Y2)),(158,(f158,Gr)),(159,(f159,Gw)),(160,(f160,Um)),(161,(f161,Uy)),(162,(f162,TD)),(163,(f163,N5)),(164,(f164,TU)),(165,(f165,XB)),(166,(f166,Un)),(167,(f167,Uz)),(174,(f174,Gg)),(176,(f176,Nm)),(177,(f177,Gn)),(178,(f178,Gs)),(179,(f179,Gx)),(180,(f180,Gc)),(181,(f181,Gh)),(182,(f182,Gk)),(184,(f184,Gt)),(186,(f186,Gd)),(188,(f188,Gl)),(190,(f190,TV)),(191,(f191,Te)),(193,(f193,U0)),(195,(f195,TN)),(198,(f198,Uo)),(199,(f199,U3)),(200,(f200,TE)),(215,(f215,Y7)),(216,(f216,XE)),(217,(f217,bU)),(218,(f218,bV)),(219,(f219,bW)),(220,(f220,Y4)),(221,(f221,TX)),(222,(f222,Tf)),(223,(f223,Up)),(224,(f224,NN)),(225,(f225,Np)),(226,(f226,N8)),(227,(f227,Y8)),(228,(f228,Tg)),(229,(f229,Uq)),(230,(f230,U4)),(231,(f231,TG)),(232,(f232,TO)),(250,(f250,Gu)),(259,(f259,TY)),(274,(f274,U6)),(275,(f275,TH)),(277,(f277,TZ)),(278,(f278,Th)),(280,(f280,U7)),(281,(f281,TI)),(282,(f282,TP)),(284,(f284,Ti)),(292,(f292,NS)),(293,(f293,Nu)),(294,(f294,TQ)),(315,(f315,Ge)),(339,(f339,bY)),(340,(f340,Ta)),(341,(f341,Tj)),(342,(f342,Ur)),(343,(f343,U8)),(344,(f344,TJ)),(348,(f348,NF)),(390,(f390,Us)),(392,(f392,N2)),(408,(f408,Ut))]
def yM:kF prog tab:=⟨⟨func8,ok8⟩,⟨func12,zC3⟩,⟨func14,zIr⟩,⟨func15,zIL⟩,⟨func17,zHf⟩,⟨func18,zFL⟩,⟨func19,zIk⟩,⟨func20,zHw⟩,⟨func24,zIf⟩,⟨func25,zIl⟩,⟨func29,zEv⟩,⟨func30,zFM⟩,⟨func36,zIg⟩,⟨func37,zHr⟩,⟨func39,zHQ⟩,⟨func40,zHX⟩,⟨func41,zHg⟩,⟨func42,zHl⟩,⟨func43,zHs⟩,⟨func44,zHx⟩,⟨func45,zHR⟩,⟨func47,zIb⟩,⟨func48,zHm⟩,⟨func49,zIm⟩,⟨func50,zIt⟩,⟨func51,zIP⟩,⟨func52,zHY⟩,⟨func53,zIc⟩,⟨func55,zIn⟩,⟨func57,zIQ⟩,⟨func59,zHh⟩,⟨func63,zHS⟩,⟨func64,zHa⟩,⟨func65,zEw⟩,⟨func66,zHn⟩,⟨func74,zIw⟩,⟨func75,zIS⟩,⟨func76,zHb⟩,⟨func77,zHj⟩,⟨func78,zHo⟩,⟨func79,zHt⟩,⟨func80,zHz⟩,⟨func81,zHT⟩,⟨func82,zHc⟩,⟨func83,zC2⟩,⟨func84,zHp⟩,⟨func85,zHu⟩,⟨func86,zFz⟩,⟨func87,zHU⟩,⟨func88,zHd⟩,⟨func89,zHk⟩,⟨func90,zHq⟩,⟨func91,zC6⟩,⟨func92,zH1⟩,⟨func93,zHV⟩,⟨func94,zHe⟩,⟨func95,zIe⟩,⟨func96,zIj⟩,⟨func97,zIq⟩,⟨func99,zIU⟩,⟨func101,zEy⟩,⟨func102,zAY⟩,⟨func103,zFb⟩,⟨func104,zF0⟩,⟨func105,AV⟩,⟨func106,An⟩,⟨func107,zEz⟩,⟨func108,zAZ⟩,⟨func109,zAs⟩,⟨func111,AW⟩,⟨func116,zA8⟩,⟨func117,AX⟩,⟨func118,Ap⟩,⟨func119,zAB⟩,⟨func120,J3⟩,⟨func121,Ej⟩,⟨func122,zA9⟩,⟨func123,AY⟩,⟨func124,Aq⟩,⟨func125,zAC⟩,⟨func139,zFf⟩,⟨func148,zEC⟩,⟨func149,Ar⟩,⟨func150,zAD⟩,⟨func151,zAb⟩,⟨func152,zAu⟩,⟨func153,zBA⟩,⟨func154,AZ⟩,⟨func155,As⟩,⟨func156,zAF⟩,⟨func157,Ee⟩,⟨func158,zFg⟩,⟨func159,zF3⟩,⟨func160,Aa⟩,⟨func161,Au⟩,⟨func162,zAG⟩,⟨func163,zAc⟩,⟨func164,zAv⟩,⟨func165,zBB⟩,⟨func166,Ab⟩,⟨func167,Aw⟩,⟨func174,zEg⟩,⟨func176,zAH⟩,⟨func177,zFQ⟩,⟨func178,zFi⟩,⟨func179,zF5⟩,⟨func180,zEH⟩,⟨func181,zEh⟩,⟨func182,zE5⟩,⟨func184,zFj⟩,⟨func186,zEI⟩,⟨func188,zE6⟩,⟨func190,zAx⟩,⟨func191,zBE⟩,⟨func193,Ax⟩,⟨func195,zAe⟩,⟨func198,Ac⟩,⟨func199,Ay⟩,⟨func200,zAI⟩,⟨func215,zAz⟩,⟨func216,zBF⟩,⟨func217,Ad⟩,⟨func218,Az⟩,⟨func219,zAJ⟩,⟨func220,zAf⟩,⟨func221,zA0⟩,⟨func222,zBG⟩,⟨func223,Ae⟩,⟨func224,A0⟩,⟨func225,zAK⟩,⟨func226,zAg⟩,⟨func227,zA1⟩,⟨func228,zBH⟩,⟨func229,Af⟩,⟨func230,A1⟩,⟨func231,zAM⟩,⟨func232,zAh⟩,⟨func250,zFo⟩,⟨func259,zA2⟩,⟨func274,A4⟩,⟨func275,zAN⟩,⟨func277,zA3⟩,⟨func278,zBJ⟩,⟨func280,A5⟩,⟨func281,zAO⟩,⟨func282,zAj⟩,⟨func284,zBK⟩,⟨func292,A6⟩,⟨func293,zAP⟩,⟨func294,zAl⟩,⟨func315,zET⟩,⟨func339,zAm⟩,⟨func340,zA4⟩,⟨func341,zBN⟩,⟨func342,Ai⟩,⟨func343,A7⟩,⟨func344,zAR⟩,⟨func348,Aj⟩,⟨func390,Ak⟩,⟨func392,zAS⟩,⟨func408,Al⟩,trivial⟩
def mix:prog.follows .mixedOrders=true:=by kernel_rfl
attribute[go_sem] mu9 zIM Ga ZM zEB W9 zIT EU Yw VA Jf zED zEE zEF Jg zEJ ZN fN zEL zEM zEN Ag fO P7 Ah VB VC ZO kK NH zEY VD mu4 EW Gf NI Am zEa zHZ K2 zIY zC0 Ea zIZ Yy Ao zEc R0 NM zEe zEf Av zEi zEj mj Yz A2 NP jk A3 zEo cP VE Jp NW Jq ZP VF C4 zC1 zEu C5 ZQ zHi zId cE R2 sX Jv zE1 Jw Ni Nj zAE Nk fP VG No kL zAL ml Y1 Jx R3 jl zFC zFD zFF Jy VH zAQ zFJ zAT C6 Wa zIh YF zAW Gm zC4 K3 zFN uO zAa mo jm nk zAd VI mq N7 Y5 kM sY zFT zAi zAk zFV zFX MF kN pI TR Eg zC5 zIp C7 fQ J8 zFc Ei MJ zAt J9 jo zAw VK rH MN R8 Ek MO zFm MQ El zFq zFr zFt R9 XA zFw MW MX IB zFy zHy MY zIx zH0 IE IF zF2 IG ZR zBC zBD XC Me rI ZS VL IH zF8 zGA fR zBI cQ zGF Et Ml QA zBL zBM zGJ
end Go.V
end
