/- How functions of this program are read by the machine, part 1. No condition. -/
import Derived.Test.YthcjhnmnhfgdiaaGreatDoorW03
import Derived.KernelRfl
import Derived.Test.YthcjhnmnhfgdiaaGreatDoorProg
set_option linter.all false
set_option maxHeartbeats 8000000
noncomputable section
namespace Go.V
open Go.Proofs.Tryz
open Go.Proofs
def zD7:Cfg:=zH [] []
def mu9 (t:Tmp):zD7.mu t=xc [] t:=(rfl)
def ok9:zb prog zD7 f9=true:=by kernel_rfl
def Je:Cfg:=zH [19] []
def AU (t:Tmp):Je.mu t=xc [19] t:=(rfl)
def zHP:zb prog Je f15=true:=by kernel_rfl
def EZ:Cfg:=zH [] []
def zIH (t:Tmp):EZ.mu t=xc [] t:=(rfl)
def zII:zb prog EZ f21=true:=by kernel_rfl
def Ea:Cfg:=zH [] []
def GZ (t:Tmp):Ea.mu t=xc [] t:=(rfl)
def zIJ:zb prog Ea f27=true:=by kernel_rfl
def Jf:Cfg:=zH [] []
def Zb (t:Tmp):Jf.mu t=xc [] t:=(rfl)
def zHQ:zb prog Jf f39=true:=by kernel_rfl
def Eb:Cfg:=zH [] []
def zHR:zb prog Eb f45=true:=by kernel_rfl
def AV:Cfg:=zH [] []
def zIK:zb prog AV f51=true:=by kernel_rfl
def AW:Cfg:=zH [] []
def zIL:zb prog AW f57=true:=by kernel_rfl
def Jg:Cfg:=zH [] []
def zD8 (t:Tmp):Jg.mu t=xc [] t:=(rfl)
def zHS:zb prog Jg f63=true:=by kernel_rfl
def Ec:Cfg:=zH [] [(10,nr 0 12)]
def VP (t:Tmp):Ec.mu t=xc [] t:=(rfl)
def zIM:zb prog Ec f69=true:=by kernel_rfl
def AX:Cfg:=zH [] []
def zIN:zb prog AX f75=true:=by kernel_rfl
def Jh:Cfg:=zH [] []
def zIO (t:Tmp):Jh.mu t=xc [] t:=(rfl)
def zHT:zb prog Jh f81=true:=by kernel_rfl
def Ji:Cfg:=zH [5] [(1,[(0, .no),(1, .no),(3, .no),(4, .st),(2, .no),(6, .no),(5, .no)]++nr 7 3),(3,[(0, .no),(1, .st)]++nr 2 14),(4,nr 0 20)]
def Ed (t:Tmp):Ji.mu t=xc [5] t:=(rfl)
def zHU:zb prog Ji f87=true:=by kernel_rfl
def Ee:Cfg:=zH [] []
def zHV:zb prog Ee f93=true:=by kernel_rfl
def AY:Cfg:=zH [] [(3,[(0, .no),(1, .no),(2, .st),(4, .no),(5, .no),(6, .st),(9, .no),(10, .no),(11, .st),(14, .no),(15, .no),(16, .st),(3, .st),(7, .st),(8, .st),(12, .st),(13, .st),(17, .st)]++nr 18 3),(6,nr 0 7),(7,[(6, .no)]++nr 0 6++nr 7 6)]
def zIP:zb prog AY f99=true:=by kernel_rfl
def P6:Cfg:=zH [] []
def AZ:zb prog P6 f105=true:=by kernel_rfl
def Uz:Cfg:=zH [] [(16,nr 0 8++ [(13, .no)]++nr 8 5++nr 14 4)]
def XE (t:Tmp):Uz.mu t=xc [] t:=(rfl)
def Aa:zb prog Uz f111=true:=by kernel_rfl
def U0:Cfg:=zH [] []
def VQ (t:Tmp):U0.mu t=xc [] t:=(rfl)
def Ab:zb prog U0 f117=true:=by kernel_rfl
def Ga:Cfg:=zH [] []
def zD9:zb prog Ga f123=true:=by kernel_rfl
def Gb:Cfg:=zH [] []
def zEA:zb prog Gb f148=true:=by kernel_rfl
def U3:Cfg:=zH [7] []
def zEB (t:Tmp):U3.mu t=xc [7] t:=(rfl)
def Ac:zb prog U3 f154=true:=by kernel_rfl
def U4:Cfg:=zH [7] []
def zEC (t:Tmp):U4.mu t=xc [7] t:=(rfl)
def Ad:zb prog U4 f160=true:=by kernel_rfl
def U5:Cfg:=zH [] []
def zED (t:Tmp):U5.mu t=xc [] t:=(rfl)
def Ae:zb prog U5 f166=true:=by kernel_rfl
def P7:Cfg:=zH [] []
def Jj (t:Tmp):P7.mu t=xc [] t:=(rfl)
def zEE:zb prog P7 f172=true:=by kernel_rfl
def Gc:Cfg:=zH [] []
def zEF:zb prog Gc f180=true:=by kernel_rfl
def Gd:Cfg:=zH [] [(4,nr 0 17),(6,nr 0 18)]
def zEG:zb prog Gd f186=true:=by kernel_rfl
def P8:Cfg:=zH [] []
def zEH (t:Tmp):P8.mu t=xc [] t:=(rfl)
def zEI:zb prog P8 f192=true:=by kernel_rfl
def U6:Cfg:=zH [] []
def Zc (t:Tmp):U6.mu t=xc [] t:=(rfl)
def Af:zb prog U6 f198=true:=by kernel_rfl
def bn:Cfg:=zH [] [(6,nr 0 19)]
def fp (t:Tmp):bn.mu t=xc [] t:=(rfl)
def Ag:zb prog bn f217=true:=by kernel_rfl
def U7:Cfg:=zH [] []
def zEJ (t:Tmp):U7.mu t=xc [] t:=(rfl)
def Ah:zb prog U7 f223=true:=by kernel_rfl
def U8:Cfg:=zH [] []
def zEK (t:Tmp):U8.mu t=xc [] t:=(rfl)
def Ai:zb prog U8 f229=true:=by kernel_rfl
def P9:Cfg:=zH [] []
def zEL (t:Tmp):P9.mu t=xc [] t:=(rfl)
def zEM:zb prog P9 f235=true:=by kernel_rfl
def ND:Cfg:=zH [] []
def Aj (t:Tmp):ND.mu t=xc [] t:=(rfl)
def zEN:zb prog ND f241=true:=by kernel_rfl
def NE:Cfg:=zH [] [(11,nr 0 20),(16,nr 0 12)]
def fq (t:Tmp):NE.mu t=xc [] t:=(rfl)
def zEO:zb prog NE f261=true:=by kernel_rfl
def NF:Cfg:=zH [] []
def NG (t:Tmp):NF.mu t=xc [] t:=(rfl)
def zEP:zb prog NF f267=true:=by kernel_rfl
def NH:Cfg:=zH [] [(1,[(2, .no),(0, .no),(1, .no)]++nr 3 10)]
def Ak (t:Tmp):NH.mu t=xc [] t:=(rfl)
def zEQ:zb prog NH f279=true:=by kernel_rfl
def Ge:Cfg:=zH [] []
def zER:zb prog Ge f315=true:=by kernel_rfl
def NI:Cfg:=zH [] []
def VS (t:Tmp):NI.mu t=xc [] t:=(rfl)
def zES:zb prog NI f324=true:=by kernel_rfl
def NJ:Cfg:=zH [] []
def VU (t:Tmp):NJ.mu t=xc [] t:=(rfl)
def zET:zb prog NJ f330=true:=by kernel_rfl
def NK:Cfg:=zH [] []
def Zd (t:Tmp):NK.mu t=xc [] t:=(rfl)
def zEU:zb prog NK f336=true:=by kernel_rfl
def U9:Cfg:=zH [] []
def kn (t:Tmp):U9.mu t=xc [] t:=(rfl)
def Al:zb prog U9 f342=true:=by kernel_rfl
def NL:Cfg:=zH [] []
def Am:zb prog NL f348=true:=by kernel_rfl
def NM:Cfg:=zH [] []
def NN (t:Tmp):NM.mu t=xc [] t:=(rfl)
def zEV:zb prog NM f372=true:=by kernel_rfl
def TA:Cfg:=zH [] []
def zEW (t:Tmp):TA.mu t=xc [] t:=(rfl)
def An:zb prog TA f390=true:=by kernel_rfl
def TB:Cfg:=zH [] [(4,nr 0 6)]
def VV (t:Tmp):TB.mu t=xc [] t:=(rfl)
def Ao:zb prog TB f408=true:=by kernel_rfl
def Jk:Cfg:=zH [] [(10,nr 0 11),(16,nr 0 8)]
def NO (t:Tmp):Jk.mu t=xc [] t:=(rfl)
def zHW:zb prog Jk f40=true:=by kernel_rfl
def Ef:Cfg:=zH [] []
def Ap (t:Tmp):Ef.mu t=xc [] t:=(rfl)
def zIQ:zb prog Ef f46=true:=by kernel_rfl
def Jl:Cfg:=zH [] []
def zEX (t:Tmp):Jl.mu t=xc [] t:=(rfl)
def zHX:zb prog Jl f52=true:=by kernel_rfl
def Eg:Cfg:=zH [] [(1,nr 0 4++ [(5, .no),(6, .st),(7, .no),(8, .st),(4, .no)]++nr 9 4)]
def zHY (t:Tmp):Eg.mu t=xc [] t:=(rfl)
def zIR:zb prog Eg f58=true:=by kernel_rfl
def Aq:Cfg:=zH [] [(10,nr 0 5++ [(5, .st)]++nr 6 13++ [(19, .st)]++nr 20 21)]
def zIS:zb prog Aq f64=true:=by kernel_rfl
def Jm:Cfg:=zH [] []
def zIT (t:Tmp):Jm.mu t=xc [] t:=(rfl)
def zHZ:zb prog Jm f76=true:=by kernel_rfl
def Jn:Cfg:=zH [] [(3,[(0, .st)]++nr 1 3)]
def zC1 (t:Tmp):Jn.mu t=xc [] t:=(rfl)
def zHa:zb prog Jn f82=true:=by kernel_rfl
def Jo:Cfg:=zH [] [(1,nr 0 3++ [(3, .st)]++nr 4 5++ [(9, .st)]++nr 10 5)]
def Eh (t:Tmp):Jo.mu t=xc [] t:=(rfl)
def zHb:zb prog Jo f88=true:=by kernel_rfl
def Jp:Cfg:=zH [31] []
def zIU (t:Tmp):Jp.mu t=xc [31] t:=(rfl)
def zHc:zb prog Jp f94=true:=by kernel_rfl
def NP:Cfg:=zH [] []
def Ar:zb prog NP f106=true:=by kernel_rfl
def NQ:Cfg:=zH [] [(9,nr 0 9++ [(14, .no)]++nr 9 5++nr 15 4)]
def XF (t:Tmp):NQ.mu t=xc [] t:=(rfl)
def zEY:zb prog NQ f112=true:=by kernel_rfl
def TC:Cfg:=zH [] [(1,nr 0 12)]
def As (t:Tmp):TC.mu t=xc [] t:=(rfl)
def Au:zb prog TC f118=true:=by kernel_rfl
def Gf:Cfg:=zH [] []
def zEZ:zb prog Gf f124=true:=by kernel_rfl
def NR:Cfg:=zH [] [(8,nr 0 7)]
def QD (t:Tmp):NR.mu t=xc [] t:=(rfl)
def zEa:zb prog NR f136=true:=by kernel_rfl
def TD:Cfg:=zH [] []
def NS (t:Tmp):TD.mu t=xc [] t:=(rfl)
def Av:zb prog TD f149=true:=by kernel_rfl
def TE:Cfg:=zH [] []
def zEb (t:Tmp):TE.mu t=xc [] t:=(rfl)
def Aw:zb prog TE f155=true:=by kernel_rfl
def TG:Cfg:=zH [] []
def zEc (t:Tmp):TG.mu t=xc [] t:=(rfl)
def Ax:zb prog TG f161=true:=by kernel_rfl
def TH:Cfg:=zH [] []
def Ay (t:Tmp):TH.mu t=xc [] t:=(rfl)
def Az:zb prog TH f167=true:=by kernel_rfl
def Gg:Cfg:=zH [] []
def zEd:zb prog Gg f174=true:=by kernel_rfl
def Gh:Cfg:=zH [] []
def zEe:zb prog Gh f181=true:=by kernel_rfl
def TI:Cfg:=zH [] []
def zEf (t:Tmp):TI.mu t=xc [] t:=(rfl)
def A0:zb prog TI f193=true:=by kernel_rfl
def TJ:Cfg:=zH [] []
def zEg (t:Tmp):TJ.mu t=xc [] t:=(rfl)
def A1:zb prog TJ f199=true:=by kernel_rfl
def bp:Cfg:=zH [] [(3,nr 0 10),(6,[(0, .no),(9, .no)]++nr 1 8++nr 10 10),(7,nr 0 34),(8,[(0, .no),(1, .no),(8, .no)]++nr 2 6++nr 9 7)]
def lR (t:Tmp):bp.mu t=xc [] t:=(rfl)
def A2:zb prog bp f218=true:=by kernel_rfl
def NT:Cfg:=zH [] []
def A3:zb prog NT f224=true:=by kernel_rfl
def TK:Cfg:=zH [] []
def XG (t:Tmp):TK.mu t=xc [] t:=(rfl)
def A4:zb prog TK f230=true:=by kernel_rfl
def NU:Cfg:=zH [] [(1,nr 0 4++ [(5, .no),(6, .st),(7, .no),(8, .st),(4, .no)]++nr 9 4)]
def A5 (t:Tmp):NU.mu t=xc [] t:=(rfl)
def zEh:zb prog NU f236=true:=by kernel_rfl
def TL:Cfg:=zH [2] []
def NV (t:Tmp):TL.mu t=xc [2] t:=(rfl)
def zEi:zb prog TL f242=true:=by kernel_rfl
def NW:Cfg:=zH [] [(11,nr 0 8),(16,nr 0 12),(18,nr 0 3++ [(9, .no)]++nr 3 6++nr 10 3)]
def hA (t:Tmp):NW.mu t=xc [] t:=(rfl)
def zEj:zb prog NW f262=true:=by kernel_rfl
def NX:Cfg:=zH [] []
def A6 (t:Tmp):NX.mu t=xc [] t:=(rfl)
def zEk:zb prog NX f268=true:=by kernel_rfl
def TM:Cfg:=zH [] []
def zEl (t:Tmp):TM.mu t=xc [] t:=(rfl)
def A7:zb prog TM f274=true:=by kernel_rfl
def TN:Cfg:=zH [] [(7,nr 0 9)]
def cn (t:Tmp):TN.mu t=xc [] t:=(rfl)
def A8:zb prog TN f280=true:=by kernel_rfl
def NY:Cfg:=zH [] []
def A9:zb prog NY f292=true:=by kernel_rfl
def Na:Cfg:=zH [] []
def VW (t:Tmp):Na.mu t=xc [] t:=(rfl)
def zEm:zb prog Na f298=true:=by kernel_rfl
def Nb:Cfg:=zH [] []
def Jq (t:Tmp):Nb.mu t=xc [] t:=(rfl)
def zEn:zb prog Nb f325=true:=by kernel_rfl
def Nc:Cfg:=zH [] []
def Nf (t:Tmp):Nc.mu t=xc [] t:=(rfl)
def zEo:zb prog Nc f331=true:=by kernel_rfl
def Ng:Cfg:=zH [] []
def Jr (t:Tmp):Ng.mu t=xc [] t:=(rfl)
def zEp:zb prog Ng f337=true:=by kernel_rfl
def TO:Cfg:=zH [] []
def Ze (t:Tmp):TO.mu t=xc [] t:=(rfl)
def zAA:zb prog TO f343=true:=by kernel_rfl
def Nh:Cfg:=zH [] [(4,nr 0 6)]
def VX (t:Tmp):Nh.mu t=xc [] t:=(rfl)
def zEq:zb prog Nh f373=true:=by kernel_rfl
def zEr:Cfg:=zH [] []
def mu5 (t:Tmp):zEr.mu t=xc [] t:=(rfl)
def ok5:zb prog zEr f5=true:=by kernel_rfl
def zAB:Cfg:=zH [] []
def zIV:zb prog zAB f17=true:=by kernel_rfl
def Ni:Cfg:=zH [] []
def zEs (t:Tmp):Ni.mu t=xc [] t:=(rfl)
def zEt:zb prog Ni f29=true:=by kernel_rfl
def Nj:Cfg:=zH [] []
def BC (t:Tmp):Nj.mu t=xc [] t:=(rfl)
def zHd:zb prog Nj f41=true:=by kernel_rfl
def zAC:Cfg:=zH [] []
def zIW:zb prog zAC f47=true:=by kernel_rfl
def zAD:Cfg:=zH [] []
def zIX:zb prog zAD f53=true:=by kernel_rfl
def Js:Cfg:=zH [] []
def Zf (t:Tmp):Js.mu t=xc [] t:=(rfl)
def zHe:zb prog Js f59=true:=by kernel_rfl
def zAE:Cfg:=zH [] []
def zIY:zb prog zAE f65=true:=by kernel_rfl
def Jt:Cfg:=zH [] []
def zIZ (t:Tmp):Jt.mu t=xc [] t:=(rfl)
def zHf:zb prog Jt f77=true:=by kernel_rfl
def QE:Cfg:=zH [40,60] [(2,[(0, .st),(4, .st),(8, .st),(1, .no),(2, .no),(3, .st),(5, .no),(6, .no),(7, .st),(9, .st)]++nr 10 8),(4,[(0, .st),(1, .no),(4, .no),(2, .no),(3, .no)]++nr 5 5),(9,[(0, .st)]++nr 1 9),(13,[(0, .st),(4, .no),(11, .no),(1, .no),(2, .st),(3, .no)]++nr 5 6++nr 12 8),(14,[(0, .st)]++nr 1 7)]
def cT (t:Tmp):QE.mu t=xc [40,60] t:=(rfl)
def zC2:zb prog QE f83=true:=by kernel_rfl
def Ju:Cfg:=zH [] [(20,nr 0 12)]
def QF (t:Tmp):Ju.mu t=xc [] t:=(rfl)
def zHg:zb prog Ju f89=true:=by kernel_rfl
def zAF:Cfg:=zH [] []
def zIa:zb prog zAF f95=true:=by kernel_rfl
def Gi:Cfg:=zH [] []
def zEu:zb prog Gi f101=true:=by kernel_rfl
def Gj:Cfg:=zH [] []
def zEv:zb prog Gj f107=true:=by kernel_rfl
def Nk:Cfg:=zH [] [(7,nr 0 26),(11,nr 0 26),(15,nr 0 18),(23,nr 0 18)]
def s9 (t:Tmp):Nk.mu t=xc [] t:=(rfl)
def zEw:zb prog Nk f113=true:=by kernel_rfl
def Gk:Cfg:=zH [] [(3,[(0, .st)]++nr 1 3)]
def zEy:zb prog Gk f119=true:=by kernel_rfl
def TP:Cfg:=zH [] []
def zEz (t:Tmp):TP.mu t=xc [] t:=(rfl)
def zAG:zb prog TP f125=true:=by kernel_rfl
def Nl:Cfg:=zH [] []
def Jv (t:Tmp):Nl.mu t=xc [] t:=(rfl)
def zE0:zb prog Nl f131=true:=by kernel_rfl
def Nm:Cfg:=zH [] []
def Nn (t:Tmp):Nm.mu t=xc [] t:=(rfl)
def zE1:zb prog Nm f137=true:=by kernel_rfl
def TQ:Cfg:=zH [] []
def No (t:Tmp):TQ.mu t=xc [] t:=(rfl)
def zAH:zb prog TQ f150=true:=by kernel_rfl
def TR:Cfg:=zH [] [(1,nr 0 4++ [(5, .no),(6, .st),(7, .no),(8, .st),(4, .no)]++nr 9 4)]
def zAI (t:Tmp):TR.mu t=xc [] t:=(rfl)
def zAJ:zb prog TR f156=true:=by kernel_rfl
def TS:Cfg:=zH [] []
def Np (t:Tmp):TS.mu t=xc [] t:=(rfl)
def zAK:zb prog TS f162=true:=by kernel_rfl
def Nq:Cfg:=zH [44] []
def fw (t:Tmp):Nq.mu t=xc [44] t:=(rfl)
def zE2:zb prog Nq f168=true:=by kernel_rfl
def Nr:Cfg:=zH [] []
def zAL:zb prog Nr f176=true:=by kernel_rfl
def Gl:Cfg:=zH [] [(4,nr 0 17),(6,nr 0 18)]
def zE3:zb prog Gl f182=true:=by kernel_rfl
def Gm:Cfg:=zH [] [(4,nr 0 17),(6,nr 0 18)]
def zE4:zb prog Gm f188=true:=by kernel_rfl
def Ns:Cfg:=zH [] [(4,nr 0 10)]
def VY (t:Tmp):Ns.mu t=xc [] t:=(rfl)
def zE5:zb prog Ns f194=true:=by kernel_rfl
def Gn:Cfg:=zH [] []
def zE6:zb prog Gn f200=true:=by kernel_rfl
def bq:Cfg:=zH [] [(3,[(0, .no),(4, .no),(8, .no)]++nr 1 3++nr 5 3++nr 9 9),(4,nr 0 4++ [(7, .no)]++nr 4 3++nr 8 6)]
def kp (t:Tmp):bq.mu t=xc [] t:=(rfl)
def zAM:zb prog bq f219=true:=by kernel_rfl
def Nt:Cfg:=zH [] []
def zAN:zb prog Nt f225=true:=by kernel_rfl
def TT:Cfg:=zH [] []
def zAO (t:Tmp):TT.mu t=xc [] t:=(rfl)
def zAP:zb prog TT f231=true:=by kernel_rfl
def Nu:Cfg:=zH [] [(6,nr 0 10),(11,nr 0 10)]
def lS (t:Tmp):Nu.mu t=xc [] t:=(rfl)
def zE7:zb prog Nu f237=true:=by kernel_rfl
def Nv:Cfg:=zH [] []
def XH (t:Tmp):Nv.mu t=xc [] t:=(rfl)
def zE8:zb prog Nv f243=true:=by kernel_rfl
def Nw:Cfg:=zH [] [(4,nr 0 9++ [(15, .no)]++nr 9 6++nr 16 4)]
def Jw (t:Tmp):Nw.mu t=xc [] t:=(rfl)
def zE9:zb prog Nw f263=true:=by kernel_rfl
def Nx:Cfg:=zH [] [(6,nr 0 8)]
def QG (t:Tmp):Nx.mu t=xc [] t:=(rfl)
def zFA:zb prog Nx f269=true:=by kernel_rfl
def TU:Cfg:=zH [] [(1,nr 0 9),(4,[(4, .no)]++nr 0 4++nr 5 18++ [(25, .no),(23, .no),(24, .no)])]
def hP (t:Tmp):TU.mu t=xc [] t:=(rfl)
def zAQ:zb prog TU f275=true:=by kernel_rfl
def TV:Cfg:=zH [] []
def zFB (t:Tmp):TV.mu t=xc [] t:=(rfl)
def zAR:zb prog TV f281=true:=by kernel_rfl
def Ny:Cfg:=zH [] []
def zAS:zb prog Ny f293=true:=by kernel_rfl
def Nz:Cfg:=zH [] []
def zFC (t:Tmp):Nz.mu t=xc [] t:=(rfl)
def zFD:zb prog Nz f299=true:=by kernel_rfl
def N2:Cfg:=zH [] []
def zFE (t:Tmp):N2.mu t=xc [] t:=(rfl)
def zFF:zb prog N2 f326=true:=by kernel_rfl
def N3:Cfg:=zH [] []
def Jx (t:Tmp):N3.mu t=xc [] t:=(rfl)
def zFG:zb prog N3 f332=true:=by kernel_rfl
def N4:Cfg:=zH [] [(8,nr 0 9),(10,nr 0 9)]
def VZ (t:Tmp):N4.mu t=xc [] t:=(rfl)
def zFH:zb prog N4 f338=true:=by kernel_rfl
def TW:Cfg:=zH [] []
def zAT (t:Tmp):TW.mu t=xc [] t:=(rfl)
def zAU:zb prog TW f344=true:=by kernel_rfl
def N5:Cfg:=zH [] []
def zFI (t:Tmp):N5.mu t=xc [] t:=(rfl)
def zFJ:zb prog N5 f386=true:=by kernel_rfl
def N6:Cfg:=zH [] []
def zAV:zb prog N6 f392=true:=by kernel_rfl
def zAW:Cfg:=zH [] []
def zIb:zb prog zAW f12=true:=by kernel_rfl
def zAX:Cfg:=zH [] []
def zIc:zb prog zAX f18=true:=by kernel_rfl
def zAY:Cfg:=zH [17] [(7,nr 0 10)]
def zId:zb prog zAY f24=true:=by kernel_rfl
def zAZ:Cfg:=zH [] [(12,nr 0 5++ [(8, .no),(12, .no)]++nr 5 3++nr 9 3++nr 13 5)]
def zIe:zb prog zAZ f30=true:=by kernel_rfl
def zAa:Cfg:=zH [] []
def zIf:zb prog zAa f36=true:=by kernel_rfl
def Jy:Cfg:=zH [] []
def zIg (t:Tmp):Jy.mu t=xc [] t:=(rfl)
def zHh:zb prog Jy f42=true:=by kernel_rfl
def Ei:Cfg:=zH [] []
def zHi:zb prog Ei f48=true:=by kernel_rfl
def Ej:Cfg:=zH [] [(7,nr 0 14),(14,[(1, .no),(0, .no)]++nr 2 8)]
def YZ (t:Tmp):Ej.mu t=xc [] t:=(rfl)
def zIh:zb prog Ej f60=true:=by kernel_rfl
def zAb:Cfg:=zH [] []
def zIi:zb prog zAb f66=true:=by kernel_rfl
def Jz:Cfg:=zH [] [(6,nr 0 9)]
def Gp (t:Tmp):Jz.mu t=xc [] t:=(rfl)
def zHj:zb prog Jz f78=true:=by kernel_rfl
def J0:Cfg:=zH [] []
def zC3 (t:Tmp):J0.mu t=xc [] t:=(rfl)
def zHk:zb prog J0 f84=true:=by kernel_rfl
def N7:Cfg:=zH [] []
def K7 (t:Tmp):N7.mu t=xc [] t:=(rfl)
def zHl:zb prog N7 f90=true:=by kernel_rfl
def zAc:Cfg:=zH [] []
def zIj:zb prog zAc f96=true:=by kernel_rfl
def TX:Cfg:=zH [] []
def zFK (t:Tmp):TX.mu t=xc [] t:=(rfl)
def zAd:zb prog TX f102=true:=by kernel_rfl
def TY:Cfg:=zH [] [(14,nr 0 13)]
def uW (t:Tmp):TY.mu t=xc [] t:=(rfl)
def zAe:zb prog TY f108=true:=by kernel_rfl
def N8:Cfg:=zH [] []
def zAf (t:Tmp):N8.mu t=xc [] t:=(rfl)
def zFL:zb prog N8 f114=true:=by kernel_rfl
def Gq:Cfg:=zH [] [(7,[(0, .st),(2, .no),(3, .no),(1, .no)]++nr 4 6)]
def zFM:zb prog Gq f120=true:=by kernel_rfl
def TZ:Cfg:=zH [] []
def hZ (t:Tmp):TZ.mu t=xc [] t:=(rfl)
def zAg:zb prog TZ f151=true:=by kernel_rfl
def XI:Cfg:=zH [] [(6,nr 0 11),(11,nr 0 12)]
def mN (t:Tmp):XI.mu t=xc [] t:=(rfl)
def Ek:zb prog XI f157=true:=by kernel_rfl
def N9:Cfg:=zH [] []
def zAh:zb prog N9 f163=true:=by kernel_rfl
def MA:Cfg:=zH [] []
def zAi (t:Tmp):MA.mu t=xc [] t:=(rfl)
def zFN:zb prog MA f169=true:=by kernel_rfl
def Gr:Cfg:=zH [] [(4,nr 0 5)]
def zFO:zb prog Gr f177=true:=by kernel_rfl
def Ta:Cfg:=zH [] [(4,nr 0 10)]
def Va (t:Tmp):Ta.mu t=xc [] t:=(rfl)
def zAj:zb prog Ta f195=true:=by kernel_rfl
def XJ:Cfg:=zH [] [(14,[(0, .st),(1, .no),(2, .st),(3, .no),(4, .no),(5, .st),(6, .sq)]++nr 7 6),(20,nr 0 12)]
def lT (t:Tmp):XJ.mu t=xc [] t:=(rfl)
def El:zb prog XJ f207=true:=by kernel_rfl
def XK:Cfg:=zH [] []
def MB (t:Tmp):XK.mu t=xc [] t:=(rfl)
def zAk:zb prog XK f220=true:=by kernel_rfl
def MC:Cfg:=zH [] []
def zAl:zb prog MC f226=true:=by kernel_rfl
def Tb:Cfg:=zH [] []
def XL (t:Tmp):Tb.mu t=xc [] t:=(rfl)
def zAm:zb prog Tb f232=true:=by kernel_rfl
def MD:Cfg:=zH [] [(11,nr 0 19)]
def kq (t:Tmp):MD.mu t=xc [] t:=(rfl)
def zFP:zb prog MD f258=true:=by kernel_rfl
def ME:Cfg:=zH [76] [(14,nr 0 32),(19,nr 0 15),(21,nr 0 18)]
def rC (t:Tmp):ME.mu t=xc [76] t:=(rfl)
def zFQ:zb prog ME f270=true:=by kernel_rfl
def MF:Cfg:=zH [] []
def zFR (t:Tmp):MF.mu t=xc [] t:=(rfl)
def zFS:zb prog MF f276=true:=by kernel_rfl
def Tc:Cfg:=zH [] [(1,[(2, .no),(6, .no),(0, .no),(1, .no)]++nr 3 3++nr 7 5)]
def zAn (t:Tmp):Tc.mu t=xc [] t:=(rfl)
def zAo:zb prog Tc f282=true:=by kernel_rfl
def Td:Cfg:=zH [] []
def zAp (t:Tmp):Td.mu t=xc [] t:=(rfl)
def zAq:zb prog Td f294=true:=by kernel_rfl
def MG:Cfg:=zH [] []
def zFT (t:Tmp):MG.mu t=xc [] t:=(rfl)
def zFU:zb prog MG f300=true:=by kernel_rfl
def MH:Cfg:=zH [] []
def zFV (t:Tmp):MH.mu t=xc [] t:=(rfl)
def zFW:zb prog MH f327=true:=by kernel_rfl
def MI:Cfg:=zH [] []
def MJ (t:Tmp):MI.mu t=xc [] t:=(rfl)
def zFX:zb prog MI f333=true:=by kernel_rfl
def br:Cfg:=zH [] [(4,[(0, .no),(4, .no)]++nr 1 3++nr 5 6)]
def kw (t:Tmp):br.mu t=xc [] t:=(rfl)
def zAr:zb prog br f339=true:=by kernel_rfl
def MK:Cfg:=zH [] [(6,[(4, .no)]++nr 0 4++ [(5, .no)]),(8,nr 0 10)]
def pf (t:Tmp):MK.mu t=xc [] t:=(rfl)
def zFY:zb prog MK f387=true:=by kernel_rfl
def QH:Cfg:=zH [] []
def Em (t:Tmp):QH.mu t=xc [] t:=(rfl)
def zFZ:zb prog QH f19=true:=by kernel_rfl
def zAs:Cfg:=zH [] [(6,nr 0 9)]
def zIk:zb prog zAs f25=true:=by kernel_rfl
def J1:Cfg:=zH [] [(6,nr 0 10),(11,nr 0 10)]
def Te (t:Tmp):J1.mu t=xc [] t:=(rfl)
def zHm:zb prog J1 f37=true:=by kernel_rfl
def J2:Cfg:=zH [] []
def En (t:Tmp):J2.mu t=xc [] t:=(rfl)
def zHn:zb prog J2 f43=true:=by kernel_rfl
def zAt:Cfg:=zH [] []
def zIl:zb prog zAt f49=true:=by kernel_rfl
def zAu:Cfg:=zH [] []
def zIm:zb prog zAu f55=true:=by kernel_rfl
def Eo:Cfg:=zH [] []
def zC4 (t:Tmp):Eo.mu t=xc [] t:=(rfl)
def zIn:zb prog Eo f61=true:=by kernel_rfl
def J3:Cfg:=zH [] []
def zIo (t:Tmp):J3.mu t=xc [] t:=(rfl)
def zHo:zb prog J3 f79=true:=by kernel_rfl
def J4:Cfg:=zH [] []
def BD (t:Tmp):J4.mu t=xc [] t:=(rfl)
def zHp:zb prog J4 f85=true:=by kernel_rfl
def QI:Cfg:=zH [] []
def fx (t:Tmp):QI.mu t=xc [] t:=(rfl)
def zC5:zb prog QI f91=true:=by kernel_rfl
def zAv:Cfg:=zH [] [(7,nr 0 12),(9,nr 0 17),(11,nr 0 21)]
def zIp:zb prog zAv f97=true:=by kernel_rfl
def Gs:Cfg:=zH [] []
def zFa:zb prog Gs f103=true:=by kernel_rfl
def Tf:Cfg:=zH [] []
def J5 (t:Tmp):Tf.mu t=xc [] t:=(rfl)
def zAw:zb prog Tf f109=true:=by kernel_rfl
def ML:Cfg:=zH [] []
def zFb (t:Tmp):ML.mu t=xc [] t:=(rfl)
def zFc:zb prog ML f115=true:=by kernel_rfl
def XM:Cfg:=zH [] [(3,nr 0 13)]
def Ep (t:Tmp):XM.mu t=xc [] t:=(rfl)
def Er:zb prog XM f121=true:=by kernel_rfl
def MM:Cfg:=zH [] [(3,[(2, .no),(0, .no),(1, .st)]++nr 3 6)]
def MN (t:Tmp):MM.mu t=xc [] t:=(rfl)
def zFd:zb prog MM f127=true:=by kernel_rfl
def Gt:Cfg:=zH [] [(4,nr 0 15),(6,nr 0 18)]
def zFe:zb prog Gt f139=true:=by kernel_rfl
def Tg:Cfg:=zH [] []
def zAx (t:Tmp):Tg.mu t=xc [] t:=(rfl)
def zAy:zb prog Tg f152=true:=by kernel_rfl
def Gu:Cfg:=zH [7] []
def zFf:zb prog Gu f158=true:=by kernel_rfl
def Th:Cfg:=zH [] []
def J6 (t:Tmp):Th.mu t=xc [] t:=(rfl)
def zAz:zb prog Th f164=true:=by kernel_rfl
def MO:Cfg:=zH [24] []
def gA (t:Tmp):MO.mu t=xc [24] t:=(rfl)
def zFg:zb prog MO f170=true:=by kernel_rfl
def Gv:Cfg:=zH [] []
def zFh:zb prog Gv f178=true:=by kernel_rfl
def Gw:Cfg:=zH [] [(4,nr 0 17),(6,nr 0 18)]
def zFi:zb prog Gw f184=true:=by kernel_rfl
def Ti:Cfg:=zH [] []
def zA0 (t:Tmp):Ti.mu t=xc [] t:=(rfl)
def zA1:zb prog Ti f190=true:=by kernel_rfl
def Tj:Cfg:=zH [] []
def Vb (t:Tmp):Tj.mu t=xc [] t:=(rfl)
def zA2:zb prog Tj f196=true:=by kernel_rfl
def MP:Cfg:=zH [] []
def rn (t:Tmp):MP.mu t=xc [] t:=(rfl)
def zFj:zb prog MP f202=true:=by kernel_rfl
def MQ:Cfg:=zH [] []
def MR (t:Tmp):MQ.mu t=xc [] t:=(rfl)
def zFk:zb prog MQ f208=true:=by kernel_rfl
def XN:Cfg:=zH [] []
def QJ (t:Tmp):XN.mu t=xc [] t:=(rfl)
def zA3:zb prog XN f215=true:=by kernel_rfl
def Tl:Cfg:=zH [] [(17,nr 0 17)]
def Es (t:Tmp):Tl.mu t=xc [] t:=(rfl)
def zA4:zb prog Tl f221=true:=by kernel_rfl
def XO:Cfg:=zH [] []
def MS (t:Tmp):XO.mu t=xc [] t:=(rfl)
def zA5:zb prog XO f227=true:=by kernel_rfl
def MT:Cfg:=zH [] []
def zFl (t:Tmp):MT.mu t=xc [] t:=(rfl)
def zFm:zb prog MT f239=true:=by kernel_rfl
def Gx:Cfg:=zH [] []
def zFn:zb prog Gx f250=true:=by kernel_rfl
def Tm:Cfg:=zH [] []
def MU (t:Tmp):Tm.mu t=xc [] t:=(rfl)
def zA6:zb prog Tm f259=true:=by kernel_rfl
def MV:Cfg:=zH [] []
def Et (t:Tmp):MV.mu t=xc [] t:=(rfl)
def zFo:zb prog MV f271=true:=by kernel_rfl
def Tn:Cfg:=zH [] []
def zFp (t:Tmp):Tn.mu t=xc [] t:=(rfl)
def zA7:zb prog Tn f277=true:=by kernel_rfl
def MW:Cfg:=zH [] []
def zFq (t:Tmp):MW.mu t=xc [] t:=(rfl)
def zFr:zb prog MW f283=true:=by kernel_rfl
def MX:Cfg:=zH [] []
def zFs (t:Tmp):MX.mu t=xc [] t:=(rfl)
def zFt:zb prog MX f301=true:=by kernel_rfl
def MY:Cfg:=zH [] [(6,nr 0 20)]
def QK (t:Tmp):MY.mu t=xc [] t:=(rfl)
def zFu:zb prog MY f328=true:=by kernel_rfl
def XP:Cfg:=zH [] []
def XQ (t:Tmp):XP.mu t=xc [] t:=(rfl)
def Eu:zb prog XP f334=true:=by kernel_rfl
def To:Cfg:=zH [] []
def zFv (t:Tmp):To.mu t=xc [] t:=(rfl)
def zA8:zb prog To f340=true:=by kernel_rfl
def MZ:Cfg:=zH [] [(4,[(4, .no)]++nr 0 4++ [(5, .no)])]
def Ma (t:Tmp):MZ.mu t=xc [] t:=(rfl)
def zFw:zb prog MZ f388=true:=by kernel_rfl
def zHq:Cfg:=zH [] [(4,[(0, .st),(1, .no),(2, .no),(3, .st)]++nr 4 6),(5,nr 0 9)]
def ok8:zb prog zHq f8=true:=by kernel_rfl
def zA9:Cfg:=zH [] [(6,nr 0 9)]
def zIq:zb prog zA9 f14=true:=by kernel_rfl
def J7:Cfg:=zH [] []
def Mb (t:Tmp):J7.mu t=xc [] t:=(rfl)
def zHr:zb prog J7 f20=true:=by kernel_rfl
def Ev:Cfg:=zH [] []
def J8 (t:Tmp):Ev.mu t=xc [] t:=(rfl)
def zIr:zb prog Ev f26=true:=by kernel_rfl
def J9:Cfg:=zH [] []
def zFx (t:Tmp):J9.mu t=xc [] t:=(rfl)
def zHs:zb prog J9 f44=true:=by kernel_rfl
def zBA:Cfg:=zH [] []
def zIs:zb prog zBA f50=true:=by kernel_rfl
def Ew:Cfg:=zH [] [(1,nr 0 4++ [(5, .no),(6, .st),(7, .no),(8, .st),(10, .no),(11, .st),(12, .no),(13, .st),(15, .no),(16, .st),(17, .no),(18, .st),(4, .no),(9, .no),(14, .no)]++nr 19 4)]
def zHt (t:Tmp):Ew.mu t=xc [] t:=(rfl)
def zIt:zb prog Ew f56=true:=by kernel_rfl
def Ey:Cfg:=zH [] []
def Mc (t:Tmp):Ey.mu t=xc [] t:=(rfl)
def zIu:zb prog Ey f62=true:=by kernel_rfl
def zBB:Cfg:=zH [] [(17,nr 0 15)]
def zIv:zb prog zBB f74=true:=by kernel_rfl
def IA:Cfg:=zH [] []
def zIw (t:Tmp):IA.mu t=xc [] t:=(rfl)
def zHu:zb prog IA f80=true:=by kernel_rfl
def Md:Cfg:=zH [] []
def zHv (t:Tmp):Md.mu t=xc [] t:=(rfl)
def zFy:zb prog Md f86=true:=by kernel_rfl
def Ez:Cfg:=zH [] []
def zHw:zb prog Ez f92=true:=by kernel_rfl
def Gy:Cfg:=zH [] []
def zFz:zb prog Gy f104=true:=by kernel_rfl
def Me:Cfg:=zH [] [(9,nr 0 25)]
def IB (t:Tmp):Me.mu t=xc [] t:=(rfl)
def zF0:zb prog Me f110=true:=by kernel_rfl
def Tp:Cfg:=zH [] []
def IC (t:Tmp):Tp.mu t=xc [] t:=(rfl)
def zBC:zb prog Tp f116=true:=by kernel_rfl
def Gz:Cfg:=zH [] []
def zF1:zb prog Gz f122=true:=by kernel_rfl
def Tq:Cfg:=zH [16] [(2,[(0, .st),(1, .no),(2, .st)]++nr 3 6)]
def ID (t:Tmp):Tq.mu t=xc [16] t:=(rfl)
def zBD:zb prog Tq f153=true:=by kernel_rfl
def G5:Cfg:=zH [7] []
def zF2:zb prog G5 f159=true:=by kernel_rfl
def XS:Cfg:=zH [] []
def Zg (t:Tmp):XS.mu t=xc [] t:=(rfl)
def zBE:zb prog XS f165=true:=by kernel_rfl
def Mf:Cfg:=zH [] []
def zBF (t:Tmp):Mf.mu t=xc [] t:=(rfl)
def zF3:zb prog Mf f171=true:=by kernel_rfl
def G6:Cfg:=zH [] []
def zF4:zb prog G6 f179=true:=by kernel_rfl
def Ts:Cfg:=zH [] []
def zBG (t:Tmp):Ts.mu t=xc [] t:=(rfl)
def zBH:zb prog Ts f191=true:=by kernel_rfl
def Mg:Cfg:=zH [] [(10,nr 0 12)]
def XT (t:Tmp):Mg.mu t=xc [] t:=(rfl)
def zF5:zb prog Mg f197=true:=by kernel_rfl
def Mh:Cfg:=zH [] []
def Mi (t:Tmp):Mh.mu t=xc [] t:=(rfl)
def zF6:zb prog Mh f203=true:=by kernel_rfl
def XU:Cfg:=zH [] [(14,nr 0 12)]
def rp (t:Tmp):XU.mu t=xc [] t:=(rfl)
def E4:zb prog XU f209=true:=by kernel_rfl
def XV:Cfg:=zH [] [(3,[(0, .st),(4, .st),(1, .no),(2, .no),(3, .st),(5, .no),(6, .no),(7, .st),(8, .no),(9, .st),(10, .no),(11, .no),(12, .st),(13, .st)]++nr 14 6)]
def Zh (t:Tmp):XV.mu t=xc [] t:=(rfl)
def zBI:zb prog XV f216=true:=by kernel_rfl
def Tt:Cfg:=zH [] []
def Vc (t:Tmp):Tt.mu t=xc [] t:=(rfl)
def zBJ:zb prog Tt f222=true:=by kernel_rfl
def Tu:Cfg:=zH [] []
def IE (t:Tmp):Tu.mu t=xc [] t:=(rfl)
def zBK:zb prog Tu f228=true:=by kernel_rfl
def Mj:Cfg:=zH [] []
def zF7 (t:Tmp):Mj.mu t=xc [] t:=(rfl)
def zF8:zb prog Mj f234=true:=by kernel_rfl
def Mk:Cfg:=zH [] []
def zF9 (t:Tmp):Mk.mu t=xc [] t:=(rfl)
def zGA:zb prog Mk f240=true:=by kernel_rfl
def Ml:Cfg:=zH [] [(10,nr 0 14),(15,nr 0 20)]
def fy (t:Tmp):Ml.mu t=xc [] t:=(rfl)
def zGB:zb prog Ml f260=true:=by kernel_rfl
def Mm:Cfg:=zH [] [(1,nr 0 20)]
def zBL (t:Tmp):Mm.mu t=xc [] t:=(rfl)
def zGC:zb prog Mm f266=true:=by kernel_rfl
def Mn:Cfg:=zH [] [(8,nr 0 13)]
def cq (t:Tmp):Mn.mu t=xc [] t:=(rfl)
def zGD:zb prog Mn f272=true:=by kernel_rfl
def Tv:Cfg:=zH [] []
def zGE (t:Tmp):Tv.mu t=xc [] t:=(rfl)
def zBM:zb prog Tv f278=true:=by kernel_rfl
def Tw:Cfg:=zH [] [(4,nr 0 17),(6,nr 0 18)]
def E5 (t:Tmp):Tw.mu t=xc [] t:=(rfl)
def zBN:zb prog Tw f284=true:=by kernel_rfl
def Mo:Cfg:=zH [] []
def Mp (t:Tmp):Mo.mu t=xc [] t:=(rfl)
def zGF:zb prog Mo f323=true:=by kernel_rfl
def Mq:Cfg:=zH [] [(6,nr 0 12)]
def QL (t:Tmp):Mq.mu t=xc [] t:=(rfl)
def zGG:zb prog Mq f329=true:=by kernel_rfl
def Mr:Cfg:=zH [] []
def zBO (t:Tmp):Mr.mu t=xc [] t:=(rfl)
def zGH:zb prog Mr f335=true:=by kernel_rfl
def Tx:Cfg:=zH [] [(1,[(2, .no),(6, .no),(0, .no),(1, .no)]++nr 3 3++nr 7 5)]
def zBP (t:Tmp):Tx.mu t=xc [] t:=(rfl)
def zBQ:zb prog Tx f341=true:=by kernel_rfl
def Ms:Cfg:=zH [] []
def zGI (t:Tmp):Ms.mu t=xc [] t:=(rfl)
def zGJ:zb prog Ms f389=true:=by kernel_rfl
set_option maxRecDepth 100000
def tab:List (Nat× (Func×Cfg)):=[(8,(f8,zHq)),(12,(f12,zAW)),(14,(f14,zA9)),(15,(f15,Je)),(17,(f17,zAB)),(18,(f18,zAX)),(19,(f19,QH)),(20,(f20,J7)),(24,(f24,zAY)),(25,(f25,zAs)),(29,(f29,Ni)),(30,(f30,zAZ)),(36,(f36,zAa)),(37,(f37,J1)),(39,(f39,Jf)),(40,(f40,Jk)),(41,(f41,Nj)),(42,(f42,Jy)),(43,(f43,J2)),(44,(f44,J9)),(45,(f45,Eb)),(47,(f47,zAC)),(48,(f48,Ei)),(49,(f49,zAt)),(50,(f50,zBA)),(51,(f51,AV)),(52,(f52,Jl)),(53,(f53,zAD)),(55,(f55,zAu)),(57,(f57,AW)),(59,(f59,Js)),(63,(f63,Jg)),(64,(f64,Aq)),(65,(f65,zAE)),(66,(f66,zAb)),(74,(f74,zBB)),(75,(f75,AX)),(76,(f76,Jm)),(77,(f77,Jt)),(78,(f78,Jz)),(79,(f79,J3)),(80,(f80,IA)),(81,(f81,Jh)),(82,(f82,Jn)),(83,(f83,QE)),(84,(f84,J0)),(85,(f85,J4)),(86,(f86,Md)),(87,(f87,Ji)),(88,(f88,Jo)),(89,(f89,Ju)),(90,(f90,N7)),(91,(f91,QI)),(92,(f92,Ez)),(93,(f93,Ee)),(94,(f94,Jp)),(95,(f95,zAF)),(96,(f96,zAc)),(97,(f97,zAv)),(99,(f99,AY)),(101,(f101,Gi)),(102,(f102,TX)),(103,(f103,Gs)),(104,(f104,Gy)),(105,(f105,P6)),(106,(f106,NP)),(107,(f107,Gj)),(108,(f108,TY)),(109,(f109,Tf)),(111,(f111,Uz)),(116,(f116,Tp)),(117,(f117,U0)),(118,(f118,TC)),(119,(f119,Gk)),(120,(f120,Gq)),(121,(f121,XM)),(122,(f122,Gz)),(123,(f123,Ga)),(124,(f124,Gf)),(125,(f125,TP)),(139,(f139,Gt)),(148,(f148,Gb)),(149,(f149,TD)),(150,(f150,TQ)),(151,(f151,TZ)),(152,(f152,Tg)),(153,(f153,Tq)),(154,(f154,U3)),(155,(f155,TE)),(156,(f156,TR)),(157,(f157,XI)),(158,(f158,Gu)),(159,(f159,G5)),(160,(f160,U4)),(161,(f161,TG)),(162,(f162,TS)),(163,(f163,N9)),(164,(f164,Th)),(165,(f165,XS)),(166,(f166,U5)),(167,(f167,TH)),(174,(f174,Gg)),(176,(f176,Nr)),(177,(f177,Gr)),(178,(f178,Gv)),(179,(f179,G6)),(180,(f180,Gc)),(181,(f181,Gh)),(182,(f182,Gl)),(184,(f184,Gw)),(186,(f186,Gd)),(188,(f188,Gm)),(190,(f190,Ti)),(191,(f191,Ts)),(193,(f193,TI)),(195,(f195,Ta)),(198,(f198,U6)),(199,(f199,TJ)),(200,(f200,Gn)),(215,(f215,XN)),(216,(f216,XV)),(217,(f217,bn)),(218,(f218,bp)),(219,(f219,bq)),(220,(f220,XK)),(221,(f221,Tl)),(222,(f222,Tt)),(223,(f223,U7)),(224,(f224,NT)),(225,(f225,Nt)),(226,(f226,MC)),(227,(f227,XO)),(228,(f228,Tu)),(229,(f229,U8)),(230,(f230,TK)),(231,(f231,TT)),(232,(f232,Tb)),(250,(f250,Gx)),(259,(f259,Tm)),(274,(f274,TM)),(275,(f275,TU)),(277,(f277,Tn)),(278,(f278,Tv)),(280,(f280,TN)),(281,(f281,TV)),(282,(f282,Tc)),(284,(f284,Tw)),(292,(f292,NY)),(293,(f293,Ny)),(294,(f294,Td)),(315,(f315,Ge)),(339,(f339,br)),(340,(f340,To)),(341,(f341,Tx)),(342,(f342,U9)),(343,(f343,TO)),(344,(f344,TW)),(348,(f348,NL)),(390,(f390,TA)),(392,(f392,N6)),(408,(f408,TB))]
def yM:kZ prog tab:=⟨⟨func8,ok8⟩,⟨func12,zIb⟩,⟨func14,zIq⟩,⟨func15,zHP⟩,⟨func17,zIV⟩,⟨func18,zIc⟩,⟨func19,zFZ⟩,⟨func20,zHr⟩,⟨func24,zId⟩,⟨func25,zIk⟩,⟨func29,zEt⟩,⟨func30,zIe⟩,⟨func36,zIf⟩,⟨func37,zHm⟩,⟨func39,zHQ⟩,⟨func40,zHW⟩,⟨func41,zHd⟩,⟨func42,zHh⟩,⟨func43,zHn⟩,⟨func44,zHs⟩,⟨func45,zHR⟩,⟨func47,zIW⟩,⟨func48,zHi⟩,⟨func49,zIl⟩,⟨func50,zIs⟩,⟨func51,zIK⟩,⟨func52,zHX⟩,⟨func53,zIX⟩,⟨func55,zIm⟩,⟨func57,zIL⟩,⟨func59,zHe⟩,⟨func63,zHS⟩,⟨func64,zIS⟩,⟨func65,zIY⟩,⟨func66,zIi⟩,⟨func74,zIv⟩,⟨func75,zIN⟩,⟨func76,zHZ⟩,⟨func77,zHf⟩,⟨func78,zHj⟩,⟨func79,zHo⟩,⟨func80,zHu⟩,⟨func81,zHT⟩,⟨func82,zHa⟩,⟨func83,zC2⟩,⟨func84,zHk⟩,⟨func85,zHp⟩,⟨func86,zFy⟩,⟨func87,zHU⟩,⟨func88,zHb⟩,⟨func89,zHg⟩,⟨func90,zHl⟩,⟨func91,zC5⟩,⟨func92,zHw⟩,⟨func93,zHV⟩,⟨func94,zHc⟩,⟨func95,zIa⟩,⟨func96,zIj⟩,⟨func97,zIp⟩,⟨func99,zIP⟩,⟨func101,zEu⟩,⟨func102,zAd⟩,⟨func103,zFa⟩,⟨func104,zFz⟩,⟨func105,AZ⟩,⟨func106,Ar⟩,⟨func107,zEv⟩,⟨func108,zAe⟩,⟨func109,zAw⟩,⟨func111,Aa⟩,⟨func116,zBC⟩,⟨func117,Ab⟩,⟨func118,Au⟩,⟨func119,zEy⟩,⟨func120,zFM⟩,⟨func121,Er⟩,⟨func122,zF1⟩,⟨func123,zD9⟩,⟨func124,zEZ⟩,⟨func125,zAG⟩,⟨func139,zFe⟩,⟨func148,zEA⟩,⟨func149,Av⟩,⟨func150,zAH⟩,⟨func151,zAg⟩,⟨func152,zAy⟩,⟨func153,zBD⟩,⟨func154,Ac⟩,⟨func155,Aw⟩,⟨func156,zAJ⟩,⟨func157,Ek⟩,⟨func158,zFf⟩,⟨func159,zF2⟩,⟨func160,Ad⟩,⟨func161,Ax⟩,⟨func162,zAK⟩,⟨func163,zAh⟩,⟨func164,zAz⟩,⟨func165,zBE⟩,⟨func166,Ae⟩,⟨func167,Az⟩,⟨func174,zEd⟩,⟨func176,zAL⟩,⟨func177,zFO⟩,⟨func178,zFh⟩,⟨func179,zF4⟩,⟨func180,zEF⟩,⟨func181,zEe⟩,⟨func182,zE3⟩,⟨func184,zFi⟩,⟨func186,zEG⟩,⟨func188,zE4⟩,⟨func190,zA1⟩,⟨func191,zBH⟩,⟨func193,A0⟩,⟨func195,zAj⟩,⟨func198,Af⟩,⟨func199,A1⟩,⟨func200,zE6⟩,⟨func215,zA3⟩,⟨func216,zBI⟩,⟨func217,Ag⟩,⟨func218,A2⟩,⟨func219,zAM⟩,⟨func220,zAk⟩,⟨func221,zA4⟩,⟨func222,zBJ⟩,⟨func223,Ah⟩,⟨func224,A3⟩,⟨func225,zAN⟩,⟨func226,zAl⟩,⟨func227,zA5⟩,⟨func228,zBK⟩,⟨func229,Ai⟩,⟨func230,A4⟩,⟨func231,zAP⟩,⟨func232,zAm⟩,⟨func250,zFn⟩,⟨func259,zA6⟩,⟨func274,A7⟩,⟨func275,zAQ⟩,⟨func277,zA7⟩,⟨func278,zBM⟩,⟨func280,A8⟩,⟨func281,zAR⟩,⟨func282,zAo⟩,⟨func284,zBN⟩,⟨func292,A9⟩,⟨func293,zAS⟩,⟨func294,zAq⟩,⟨func315,zER⟩,⟨func339,zAr⟩,⟨func340,zA8⟩,⟨func341,zBQ⟩,⟨func342,Al⟩,⟨func343,zAA⟩,⟨func344,zAU⟩,⟨func348,Am⟩,⟨func390,An⟩,⟨func392,zAV⟩,⟨func408,Ao⟩,trivial⟩
def mix:prog.follows .mixedOrders=true:=by kernel_rfl
attribute[go_sem] mu9 AU zIH GZ Zb zD8 VP zIO Ed XE VQ zEB zEC zED Jj zEH Zc fp zEJ zEK zEL Aj fq NG Ak VS VU Zd kn NN zEW VV NO Ap zEX zHY zIT zC1 Eh zIU XF As QD NS zEb zEc Ay zEf zEg lR XG A5 NV hA A6 zEl cn VW Jq Nf Jr Ze VX mu5 zEs BC Zf zIZ cT QF s9 zEz Jv Nn No zAI Np fw VY kp zAO lS XH Jw QG hP zFB zFC zFE Jx VZ zAT zFI zIg YZ Gp zC3 K7 zFK uW zAf hZ mN zAi Va lT MB XL kq rC zFR zAn zAp zFT zFV MJ kw pf Em Te En zC4 zIo BD fx J5 zFb Ep MN zAx J6 gA zA0 Vb rn MR QJ Es MS zFl MU Et zFp zFq zFs QK XQ zFv Ma Mb J8 zFx zHt Mc zIw zHv IB IC ID Zg zBF zBG XT Mi rp Zh Vc IE zF7 zF9 fy zBL cq zGE E5 Mp QL zBO zBP zGI
end Go.V
end
