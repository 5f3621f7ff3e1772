/- How functions of this program are read by the machine, part 1. No condition. -/
import Derived.Test.YthcjhnmnhfgdiaaGreatDoorW03
import Derived.KernelRfl
import Derived.Test.YthcjhnmnhfgdiaaGreatDoorProg
set_option linter.all false
set_option maxHeartbeats 8000000
noncomputable section
namespace Go.V
open Go.Proofs.Tryz
open Go.Proofs
def zCy:Cfg:=zH [] []
def mu9 (t:Tmp):zCy.mu t=xc [] t:=(rfl)
def ok9:zY prog zCy f9=true:=by kernel_rfl
def BO:Cfg:=zH [19] []
def zHE:zY prog BO f15=true:=by kernel_rfl
def Kf:Cfg:=zH [] []
def zGJ (t:Tmp):Kf.mu t=xc [] t:=(rfl)
def zGK:zY prog Kf f21=true:=by kernel_rfl
def FQ:Cfg:=zH [] []
def HY (t:Tmp):FQ.mu t=xc [] t:=(rfl)
def zHF:zY prog FQ f27=true:=by kernel_rfl
def Kg:Cfg:=zH [] []
def ao (t:Tmp):Kg.mu t=xc [] t:=(rfl)
def zGL:zY prog Kg f39=true:=by kernel_rfl
def FR:Cfg:=zH [] []
def zGM:zY prog FR f45=true:=by kernel_rfl
def BP:Cfg:=zH [] []
def zHG:zY prog BP f51=true:=by kernel_rfl
def BQ:Cfg:=zH [] []
def zHH:zY prog BQ f57=true:=by kernel_rfl
def Kh:Cfg:=zH [] []
def zCz (t:Tmp):Kh.mu t=xc [] t:=(rfl)
def zGN:zY prog Kh f63=true:=by kernel_rfl
def FS:Cfg:=zH [] [(10,nr 0 12)]
def Wb (t:Tmp):FS.mu t=xc [] t:=(rfl)
def zHI:zY prog FS f69=true:=by kernel_rfl
def BR:Cfg:=zH [] []
def zHJ:zY prog BR f75=true:=by kernel_rfl
def Ki:Cfg:=zH [] []
def zHK (t:Tmp):Ki.mu t=xc [] t:=(rfl)
def zGO:zY prog Ki f81=true:=by kernel_rfl
def Kj:Cfg:=zH [5] [(1,[(0, .no),(1, .no),(3, .no),(4, .st),(2, .no),(6, .no),(5, .no)]++nr 7 3),(3,[(0, .no),(1, .st)]++nr 2 14),(4,nr 0 20)]
def FT (t:Tmp):Kj.mu t=xc [5] t:=(rfl)
def zGP:zY prog Kj f87=true:=by kernel_rfl
def Q9:Cfg:=zH [] []
def zHL (t:Tmp):Q9.mu t=xc [] t:=(rfl)
def zC0:zY prog Q9 f93=true:=by kernel_rfl
def BS:Cfg:=zH [] [(3,[(0, .no),(1, .no),(2, .st),(4, .no),(5, .no),(6, .st),(9, .no),(10, .no),(11, .st),(14, .no),(15, .no),(16, .st),(3, .st),(7, .st),(8, .st),(12, .st),(13, .st),(17, .st)]++nr 18 3),(6,nr 0 7),(7,[(6, .no)]++nr 0 6++nr 7 6)]
def zHM:zY prog BS f99=true:=by kernel_rfl
def PA:Cfg:=zH [] []
def BT:zY prog PA f105=true:=by kernel_rfl
def V7:Cfg:=zH [] [(16,nr 0 8++ [(13, .no)]++nr 8 5++nr 14 4)]
def YW (t:Tmp):V7.mu t=xc [] t:=(rfl)
def BU:zY prog V7 f111=true:=by kernel_rfl
def V8:Cfg:=zH [] []
def Wc (t:Tmp):V8.mu t=xc [] t:=(rfl)
def BV:zY prog V8 f117=true:=by kernel_rfl
def HZ:Cfg:=zH [] []
def zC1:zY prog HZ f123=true:=by kernel_rfl
def Ha:Cfg:=zH [] []
def zC2:zY prog Ha f148=true:=by kernel_rfl
def V9:Cfg:=zH [7] []
def zC3 (t:Tmp):V9.mu t=xc [7] t:=(rfl)
def BW:zY prog V9 f154=true:=by kernel_rfl
def UA:Cfg:=zH [7] []
def zC4 (t:Tmp):UA.mu t=xc [7] t:=(rfl)
def BX:zY prog UA f160=true:=by kernel_rfl
def UB:Cfg:=zH [] []
def zC5 (t:Tmp):UB.mu t=xc [] t:=(rfl)
def BY:zY prog UB f166=true:=by kernel_rfl
def PB:Cfg:=zH [] []
def Kk (t:Tmp):PB.mu t=xc [] t:=(rfl)
def zC6:zY prog PB f172=true:=by kernel_rfl
def Hb:Cfg:=zH [] []
def zC7:zY prog Hb f180=true:=by kernel_rfl
def Hc:Cfg:=zH [] [(4,nr 0 17),(6,nr 0 18)]
def zC8:zY prog Hc f186=true:=by kernel_rfl
def PC:Cfg:=zH [] []
def zC9 (t:Tmp):PC.mu t=xc [] t:=(rfl)
def zDA:zY prog PC f192=true:=by kernel_rfl
def UC:Cfg:=zH [] []
def aq (t:Tmp):UC.mu t=xc [] t:=(rfl)
def BZ:zY prog UC f198=true:=by kernel_rfl
def bB:Cfg:=zH [] [(6,nr 0 19)]
def gv (t:Tmp):bB.mu t=xc [] t:=(rfl)
def Ba:zY prog bB f217=true:=by kernel_rfl
def UD:Cfg:=zH [] []
def zDB (t:Tmp):UD.mu t=xc [] t:=(rfl)
def Bb:zY prog UD f223=true:=by kernel_rfl
def UE:Cfg:=zH [] []
def zDC (t:Tmp):UE.mu t=xc [] t:=(rfl)
def Bc:zY prog UE f229=true:=by kernel_rfl
def PD:Cfg:=zH [] []
def zDD (t:Tmp):PD.mu t=xc [] t:=(rfl)
def zDE:zY prog PD f235=true:=by kernel_rfl
def PE:Cfg:=zH [] []
def Bd (t:Tmp):PE.mu t=xc [] t:=(rfl)
def zDF:zY prog PE f241=true:=by kernel_rfl
def PF:Cfg:=zH [] [(11,nr 0 20),(16,nr 0 12)]
def gx (t:Tmp):PF.mu t=xc [] t:=(rfl)
def zDG:zY prog PF f261=true:=by kernel_rfl
def PG:Cfg:=zH [] []
def PH (t:Tmp):PG.mu t=xc [] t:=(rfl)
def zDH:zY prog PG f267=true:=by kernel_rfl
def PI:Cfg:=zH [] [(1,[(2, .no),(0, .no),(1, .no)]++nr 3 10)]
def Be (t:Tmp):PI.mu t=xc [] t:=(rfl)
def zDI:zY prog PI f279=true:=by kernel_rfl
def Hd:Cfg:=zH [] []
def zDJ:zY prog Hd f315=true:=by kernel_rfl
def PJ:Cfg:=zH [] []
def Wd (t:Tmp):PJ.mu t=xc [] t:=(rfl)
def zDK:zY prog PJ f324=true:=by kernel_rfl
def PK:Cfg:=zH [] []
def We (t:Tmp):PK.mu t=xc [] t:=(rfl)
def zDL:zY prog PK f330=true:=by kernel_rfl
def PL:Cfg:=zH [] []
def ar (t:Tmp):PL.mu t=xc [] t:=(rfl)
def zDM:zY prog PL f336=true:=by kernel_rfl
def UF:Cfg:=zH [] []
def lv (t:Tmp):UF.mu t=xc [] t:=(rfl)
def Bf:zY prog UF f342=true:=by kernel_rfl
def PM:Cfg:=zH [] []
def Bg:zY prog PM f348=true:=by kernel_rfl
def PN:Cfg:=zH [] []
def PO (t:Tmp):PN.mu t=xc [] t:=(rfl)
def zDN:zY prog PN f372=true:=by kernel_rfl
def UG:Cfg:=zH [] []
def zDO (t:Tmp):UG.mu t=xc [] t:=(rfl)
def Bh:zY prog UG f390=true:=by kernel_rfl
def UH:Cfg:=zH [] [(4,nr 0 6)]
def Wf (t:Tmp):UH.mu t=xc [] t:=(rfl)
def Bi:zY prog UH f408=true:=by kernel_rfl
def Kl:Cfg:=zH [] []
def zGQ (t:Tmp):Kl.mu t=xc [] t:=(rfl)
def zGR:zY prog Kl f22=true:=by kernel_rfl
def Km:Cfg:=zH [] [(10,nr 0 11),(16,nr 0 8)]
def PP (t:Tmp):Km.mu t=xc [] t:=(rfl)
def zGS:zY prog Km f40=true:=by kernel_rfl
def FU:Cfg:=zH [] []
def Bj (t:Tmp):FU.mu t=xc [] t:=(rfl)
def zHN:zY prog FU f46=true:=by kernel_rfl
def Ko:Cfg:=zH [] []
def zDP (t:Tmp):Ko.mu t=xc [] t:=(rfl)
def zGT:zY prog Ko f52=true:=by kernel_rfl
def FV:Cfg:=zH [] [(1,nr 0 4++ [(5, .no),(6, .st),(7, .no),(8, .st),(4, .no)]++nr 9 4)]
def zGU (t:Tmp):FV.mu t=xc [] t:=(rfl)
def zHO:zY prog FV f58=true:=by kernel_rfl
def Bk:Cfg:=zH [] [(10,nr 0 5++ [(5, .st)]++nr 6 13++ [(19, .st)]++nr 20 21)]
def zHP:zY prog Bk f64=true:=by kernel_rfl
def Kp:Cfg:=zH [] []
def zHQ (t:Tmp):Kp.mu t=xc [] t:=(rfl)
def zGV:zY prog Kp f76=true:=by kernel_rfl
def Kq:Cfg:=zH [] [(3,[(0, .st)]++nr 1 3)]
def zBt (t:Tmp):Kq.mu t=xc [] t:=(rfl)
def zGW:zY prog Kq f82=true:=by kernel_rfl
def Kr:Cfg:=zH [] [(1,nr 0 3++ [(3, .st)]++nr 4 5++ [(9, .st)]++nr 10 5)]
def FW (t:Tmp):Kr.mu t=xc [] t:=(rfl)
def zGX:zY prog Kr f88=true:=by kernel_rfl
def Ks:Cfg:=zH [31] []
def zHR (t:Tmp):Ks.mu t=xc [31] t:=(rfl)
def zGY:zY prog Ks f94=true:=by kernel_rfl
def PQ:Cfg:=zH [] []
def Bl:zY prog PQ f106=true:=by kernel_rfl
def PR:Cfg:=zH [] [(9,nr 0 9++ [(14, .no)]++nr 9 5++nr 15 4)]
def YX (t:Tmp):PR.mu t=xc [] t:=(rfl)
def zDQ:zY prog PR f112=true:=by kernel_rfl
def UI:Cfg:=zH [] [(1,nr 0 12)]
def Bm (t:Tmp):UI.mu t=xc [] t:=(rfl)
def Bn:zY prog UI f118=true:=by kernel_rfl
def He:Cfg:=zH [] []
def zDR:zY prog He f124=true:=by kernel_rfl
def PS:Cfg:=zH [] [(8,nr 0 7)]
def RI (t:Tmp):PS.mu t=xc [] t:=(rfl)
def zDS:zY prog PS f136=true:=by kernel_rfl
def UJ:Cfg:=zH [] []
def PT (t:Tmp):UJ.mu t=xc [] t:=(rfl)
def Bo:zY prog UJ f149=true:=by kernel_rfl
def UK:Cfg:=zH [] []
def zDT (t:Tmp):UK.mu t=xc [] t:=(rfl)
def Bp:zY prog UK f155=true:=by kernel_rfl
def UL:Cfg:=zH [] []
def zDU (t:Tmp):UL.mu t=xc [] t:=(rfl)
def Bq:zY prog UL f161=true:=by kernel_rfl
def UM:Cfg:=zH [] []
def Br (t:Tmp):UM.mu t=xc [] t:=(rfl)
def Bs:zY prog UM f167=true:=by kernel_rfl
def Hf:Cfg:=zH [] []
def zDV:zY prog Hf f174=true:=by kernel_rfl
def Hg:Cfg:=zH [] []
def zDW:zY prog Hg f181=true:=by kernel_rfl
def UN:Cfg:=zH [] []
def zDX (t:Tmp):UN.mu t=xc [] t:=(rfl)
def Bt:zY prog UN f193=true:=by kernel_rfl
def UO:Cfg:=zH [] []
def zDY (t:Tmp):UO.mu t=xc [] t:=(rfl)
def Bu:zY prog UO f199=true:=by kernel_rfl
def bC:Cfg:=zH [] [(3,nr 0 10),(6,[(0, .no),(9, .no)]++nr 1 8++nr 10 10),(7,nr 0 34),(8,[(0, .no),(1, .no),(8, .no)]++nr 2 6++nr 9 7)]
def mV (t:Tmp):bC.mu t=xc [] t:=(rfl)
def Bv:zY prog bC f218=true:=by kernel_rfl
def PU:Cfg:=zH [] []
def Bw:zY prog PU f224=true:=by kernel_rfl
def UP:Cfg:=zH [] []
def YY (t:Tmp):UP.mu t=xc [] t:=(rfl)
def Bx:zY prog UP f230=true:=by kernel_rfl
def PV:Cfg:=zH [] [(1,nr 0 4++ [(5, .no),(6, .st),(7, .no),(8, .st),(4, .no)]++nr 9 4)]
def By (t:Tmp):PV.mu t=xc [] t:=(rfl)
def zDZ:zY prog PV f236=true:=by kernel_rfl
def UQ:Cfg:=zH [2] []
def PW (t:Tmp):UQ.mu t=xc [2] t:=(rfl)
def zDa:zY prog UQ f242=true:=by kernel_rfl
def PX:Cfg:=zH [] [(11,nr 0 8),(16,nr 0 12),(18,nr 0 3++ [(9, .no)]++nr 3 6++nr 10 3)]
def jP (t:Tmp):PX.mu t=xc [] t:=(rfl)
def zDb:zY prog PX f262=true:=by kernel_rfl
def PY:Cfg:=zH [] []
def Bz (t:Tmp):PY.mu t=xc [] t:=(rfl)
def zDc:zY prog PY f268=true:=by kernel_rfl
def UR:Cfg:=zH [] []
def zDd (t:Tmp):UR.mu t=xc [] t:=(rfl)
def B0:zY prog UR f274=true:=by kernel_rfl
def US:Cfg:=zH [] [(7,nr 0 9)]
def dx (t:Tmp):US.mu t=xc [] t:=(rfl)
def B1:zY prog US f280=true:=by kernel_rfl
def PZ:Cfg:=zH [] []
def B3:zY prog PZ f292=true:=by kernel_rfl
def Pa:Cfg:=zH [] []
def Wg (t:Tmp):Pa.mu t=xc [] t:=(rfl)
def zDe:zY prog Pa f298=true:=by kernel_rfl
def Pb:Cfg:=zH [] []
def Kt (t:Tmp):Pb.mu t=xc [] t:=(rfl)
def zDf:zY prog Pb f325=true:=by kernel_rfl
def Pc:Cfg:=zH [] []
def Pd (t:Tmp):Pc.mu t=xc [] t:=(rfl)
def zDg:zY prog Pc f331=true:=by kernel_rfl
def Pe:Cfg:=zH [] []
def Ku (t:Tmp):Pe.mu t=xc [] t:=(rfl)
def zDh:zY prog Pe f337=true:=by kernel_rfl
def UT:Cfg:=zH [] []
def av (t:Tmp):UT.mu t=xc [] t:=(rfl)
def B4:zY prog UT f343=true:=by kernel_rfl
def Pf:Cfg:=zH [] [(4,nr 0 6)]
def Wh (t:Tmp):Pf.mu t=xc [] t:=(rfl)
def zDi:zY prog Pf f373=true:=by kernel_rfl
def B5:Cfg:=zH [] []
def zHS:zY prog B5 f17=true:=by kernel_rfl
def FX:Cfg:=zH [] [(4,nr 0 10)]
def B6 (t:Tmp):FX.mu t=xc [] t:=(rfl)
def zHT:zY prog FX f23=true:=by kernel_rfl
def Pg:Cfg:=zH [] []
def zDj (t:Tmp):Pg.mu t=xc [] t:=(rfl)
def zDk:zY prog Pg f29=true:=by kernel_rfl
def Ph:Cfg:=zH [] []
def D7 (t:Tmp):Ph.mu t=xc [] t:=(rfl)
def zGZ:zY prog Ph f41=true:=by kernel_rfl
def Kv:Cfg:=zH [] []
def zHU (t:Tmp):Kv.mu t=xc [] t:=(rfl)
def zGa:zY prog Kv f47=true:=by kernel_rfl
def B7:Cfg:=zH [] []
def zHV:zY prog B7 f53=true:=by kernel_rfl
def Kw:Cfg:=zH [] []
def aw (t:Tmp):Kw.mu t=xc [] t:=(rfl)
def zGb:zY prog Kw f59=true:=by kernel_rfl
def B8:Cfg:=zH [] []
def zHW:zY prog B8 f65=true:=by kernel_rfl
def Kx:Cfg:=zH [] []
def zHX (t:Tmp):Kx.mu t=xc [] t:=(rfl)
def zGc:zY prog Kx f77=true:=by kernel_rfl
def RJ:Cfg:=zH [40,60] [(2,[(0, .st),(4, .st),(8, .st),(1, .no),(2, .no),(3, .st),(5, .no),(6, .no),(7, .st),(9, .st)]++nr 10 8),(4,[(0, .st),(1, .no),(4, .no),(2, .no),(3, .no)]++nr 5 5),(9,[(0, .st)]++nr 1 9),(13,[(0, .st),(4, .no),(11, .no),(1, .no),(2, .st),(3, .no)]++nr 5 6++nr 12 8),(14,[(0, .st)]++nr 1 7)]
def dZ (t:Tmp):RJ.mu t=xc [40,60] t:=(rfl)
def zBu:zY prog RJ f83=true:=by kernel_rfl
def Ky:Cfg:=zH [] [(20,nr 0 12)]
def RK (t:Tmp):Ky.mu t=xc [] t:=(rfl)
def zGd:zY prog Ky f89=true:=by kernel_rfl
def B9:Cfg:=zH [] []
def zHY:zY prog B9 f95=true:=by kernel_rfl
def Hh:Cfg:=zH [] []
def zDl:zY prog Hh f101=true:=by kernel_rfl
def Hi:Cfg:=zH [] []
def zDm:zY prog Hi f107=true:=by kernel_rfl
def Pi:Cfg:=zH [] [(7,nr 0 26),(11,nr 0 26),(15,nr 0 18),(23,nr 0 18)]
def sU (t:Tmp):Pi.mu t=xc [] t:=(rfl)
def zDn:zY prog Pi f113=true:=by kernel_rfl
def Hj:Cfg:=zH [] [(3,[(0, .st)]++nr 1 3)]
def zDo:zY prog Hj f119=true:=by kernel_rfl
def UU:Cfg:=zH [] []
def zDp (t:Tmp):UU.mu t=xc [] t:=(rfl)
def AA:zY prog UU f125=true:=by kernel_rfl
def Pj:Cfg:=zH [] []
def Kz (t:Tmp):Pj.mu t=xc [] t:=(rfl)
def zDq:zY prog Pj f131=true:=by kernel_rfl
def Pk:Cfg:=zH [] []
def Pm (t:Tmp):Pk.mu t=xc [] t:=(rfl)
def zDr:zY prog Pk f137=true:=by kernel_rfl
def UV:Cfg:=zH [] []
def Pn (t:Tmp):UV.mu t=xc [] t:=(rfl)
def AB:zY prog UV f150=true:=by kernel_rfl
def UW:Cfg:=zH [] [(1,nr 0 4++ [(5, .no),(6, .st),(7, .no),(8, .st),(4, .no)]++nr 9 4)]
def AC (t:Tmp):UW.mu t=xc [] t:=(rfl)
def AD:zY prog UW f156=true:=by kernel_rfl
def UX:Cfg:=zH [] []
def Po (t:Tmp):UX.mu t=xc [] t:=(rfl)
def AE:zY prog UX f162=true:=by kernel_rfl
def Pp:Cfg:=zH [44] []
def gy (t:Tmp):Pp.mu t=xc [44] t:=(rfl)
def zDs:zY prog Pp f168=true:=by kernel_rfl
def Pq:Cfg:=zH [] []
def AF:zY prog Pq f176=true:=by kernel_rfl
def Hk:Cfg:=zH [] [(4,nr 0 17),(6,nr 0 18)]
def zDt:zY prog Hk f182=true:=by kernel_rfl
def Hl:Cfg:=zH [] [(4,nr 0 17),(6,nr 0 18)]
def zDu:zY prog Hl f188=true:=by kernel_rfl
def Pr:Cfg:=zH [] [(4,nr 0 10)]
def Wi (t:Tmp):Pr.mu t=xc [] t:=(rfl)
def zDv:zY prog Pr f194=true:=by kernel_rfl
def Hm:Cfg:=zH [] []
def zDw:zY prog Hm f200=true:=by kernel_rfl
def bD:Cfg:=zH [] [(3,[(0, .no),(4, .no),(8, .no)]++nr 1 3++nr 5 3++nr 9 9),(4,nr 0 4++ [(7, .no)]++nr 4 3++nr 8 6)]
def lw (t:Tmp):bD.mu t=xc [] t:=(rfl)
def AG:zY prog bD f219=true:=by kernel_rfl
def Ps:Cfg:=zH [] []
def AH:zY prog Ps f225=true:=by kernel_rfl
def UY:Cfg:=zH [] []
def AI (t:Tmp):UY.mu t=xc [] t:=(rfl)
def AJ:zY prog UY f231=true:=by kernel_rfl
def Pt:Cfg:=zH [] [(6,nr 0 10),(11,nr 0 10)]
def mW (t:Tmp):Pt.mu t=xc [] t:=(rfl)
def zDx:zY prog Pt f237=true:=by kernel_rfl
def Pu:Cfg:=zH [] []
def YZ (t:Tmp):Pu.mu t=xc [] t:=(rfl)
def zDy:zY prog Pu f243=true:=by kernel_rfl
def Pv:Cfg:=zH [] [(4,nr 0 9++ [(15, .no)]++nr 9 6++nr 16 4)]
def K0 (t:Tmp):Pv.mu t=xc [] t:=(rfl)
def zDz:zY prog Pv f263=true:=by kernel_rfl
def Pw:Cfg:=zH [] [(6,nr 0 8)]
def RL (t:Tmp):Pw.mu t=xc [] t:=(rfl)
def zD0:zY prog Pw f269=true:=by kernel_rfl
def UZ:Cfg:=zH [] [(1,nr 0 9),(4,[(4, .no)]++nr 0 4++nr 5 18++ [(25, .no),(23, .no),(24, .no)])]
def jQ (t:Tmp):UZ.mu t=xc [] t:=(rfl)
def AK:zY prog UZ f275=true:=by kernel_rfl
def Ua:Cfg:=zH [] []
def zD1 (t:Tmp):Ua.mu t=xc [] t:=(rfl)
def AL:zY prog Ua f281=true:=by kernel_rfl
def Px:Cfg:=zH [] []
def AM:zY prog Px f293=true:=by kernel_rfl
def Py:Cfg:=zH [] []
def zD2 (t:Tmp):Py.mu t=xc [] t:=(rfl)
def zD3:zY prog Py f299=true:=by kernel_rfl
def Pz:Cfg:=zH [] []
def zD4 (t:Tmp):Pz.mu t=xc [] t:=(rfl)
def zD5:zY prog Pz f326=true:=by kernel_rfl
def P0:Cfg:=zH [] []
def K1 (t:Tmp):P0.mu t=xc [] t:=(rfl)
def zD6:zY prog P0 f332=true:=by kernel_rfl
def P1:Cfg:=zH [] [(8,nr 0 9),(10,nr 0 9)]
def Wj (t:Tmp):P1.mu t=xc [] t:=(rfl)
def zD7:zY prog P1 f338=true:=by kernel_rfl
def Ub:Cfg:=zH [] []
def AN (t:Tmp):Ub.mu t=xc [] t:=(rfl)
def AO:zY prog Ub f344=true:=by kernel_rfl
def P2:Cfg:=zH [] []
def zD8 (t:Tmp):P2.mu t=xc [] t:=(rfl)
def zD9:zY prog P2 f386=true:=by kernel_rfl
def P3:Cfg:=zH [] []
def AP:zY prog P3 f392=true:=by kernel_rfl
def AQ:Cfg:=zH [] []
def zHZ:zY prog AQ f12=true:=by kernel_rfl
def AR:Cfg:=zH [] []
def zHa:zY prog AR f18=true:=by kernel_rfl
def AS:Cfg:=zH [17] [(7,nr 0 10)]
def zHb:zY prog AS f24=true:=by kernel_rfl
def AT:Cfg:=zH [] [(12,nr 0 5++ [(8, .no),(12, .no)]++nr 5 3++nr 9 3++nr 13 5)]
def zHc:zY prog AT f30=true:=by kernel_rfl
def AU:Cfg:=zH [] []
def zHd:zY prog AU f36=true:=by kernel_rfl
def K2:Cfg:=zH [] []
def zHe (t:Tmp):K2.mu t=xc [] t:=(rfl)
def zGe:zY prog K2 f42=true:=by kernel_rfl
def FY:Cfg:=zH [] []
def zGf:zY prog FY f48=true:=by kernel_rfl
def FZ:Cfg:=zH [] [(7,nr 0 14),(14,[(1, .no),(0, .no)]++nr 2 8)]
def Zq (t:Tmp):FZ.mu t=xc [] t:=(rfl)
def zHf:zY prog FZ f60=true:=by kernel_rfl
def AV:Cfg:=zH [] []
def zHg:zY prog AV f66=true:=by kernel_rfl
def K3:Cfg:=zH [] [(6,nr 0 9)]
def Hn (t:Tmp):K3.mu t=xc [] t:=(rfl)
def zGg:zY prog K3 f78=true:=by kernel_rfl
def K4:Cfg:=zH [] []
def zBv (t:Tmp):K4.mu t=xc [] t:=(rfl)
def zGh:zY prog K4 f84=true:=by kernel_rfl
def P4:Cfg:=zH [] []
def Lv (t:Tmp):P4.mu t=xc [] t:=(rfl)
def zGi:zY prog P4 f90=true:=by kernel_rfl
def AW:Cfg:=zH [] []
def zHh:zY prog AW f96=true:=by kernel_rfl
def Uc:Cfg:=zH [] []
def zEA (t:Tmp):Uc.mu t=xc [] t:=(rfl)
def AX:zY prog Uc f102=true:=by kernel_rfl
def Ud:Cfg:=zH [] [(14,nr 0 13)]
def uH (t:Tmp):Ud.mu t=xc [] t:=(rfl)
def AY:zY prog Ud f108=true:=by kernel_rfl
def P5:Cfg:=zH [] []
def AZ (t:Tmp):P5.mu t=xc [] t:=(rfl)
def zEB:zY prog P5 f114=true:=by kernel_rfl
def Ho:Cfg:=zH [] [(7,[(0, .st),(2, .no),(3, .no),(1, .no)]++nr 4 6)]
def zEC:zY prog Ho f120=true:=by kernel_rfl
def Ue:Cfg:=zH [] []
def jR (t:Tmp):Ue.mu t=xc [] t:=(rfl)
def Aa:zY prog Ue f151=true:=by kernel_rfl
def Ya:Cfg:=zH [] [(6,nr 0 11),(11,nr 0 12)]
def nS (t:Tmp):Ya.mu t=xc [] t:=(rfl)
def Fa:zY prog Ya f157=true:=by kernel_rfl
def P6:Cfg:=zH [] []
def Ab:zY prog P6 f163=true:=by kernel_rfl
def P7:Cfg:=zH [] []
def Ac (t:Tmp):P7.mu t=xc [] t:=(rfl)
def zED:zY prog P7 f169=true:=by kernel_rfl
def Hp:Cfg:=zH [] [(4,nr 0 5)]
def zEE:zY prog Hp f177=true:=by kernel_rfl
def Uf:Cfg:=zH [] [(4,nr 0 10)]
def Wk (t:Tmp):Uf.mu t=xc [] t:=(rfl)
def Ad:zY prog Uf f195=true:=by kernel_rfl
def Yb:Cfg:=zH [] [(14,[(0, .st),(1, .no),(2, .st),(3, .no),(4, .no),(5, .st),(6, .sq)]++nr 7 6),(20,nr 0 12)]
def mX (t:Tmp):Yb.mu t=xc [] t:=(rfl)
def Fb:zY prog Yb f207=true:=by kernel_rfl
def Yc:Cfg:=zH [] []
def P8 (t:Tmp):Yc.mu t=xc [] t:=(rfl)
def Ae:zY prog Yc f220=true:=by kernel_rfl
def P9:Cfg:=zH [] []
def Af:zY prog P9 f226=true:=by kernel_rfl
def Ug:Cfg:=zH [] []
def Yd (t:Tmp):Ug.mu t=xc [] t:=(rfl)
def Ag:zY prog Ug f232=true:=by kernel_rfl
def ND:Cfg:=zH [] [(11,nr 0 19)]
def lx (t:Tmp):ND.mu t=xc [] t:=(rfl)
def zEF:zY prog ND f258=true:=by kernel_rfl
def NE:Cfg:=zH [76] [(14,nr 0 32),(19,nr 0 15),(21,nr 0 18)]
def sV (t:Tmp):NE.mu t=xc [76] t:=(rfl)
def zEG:zY prog NE f270=true:=by kernel_rfl
def NF:Cfg:=zH [] []
def zEH (t:Tmp):NF.mu t=xc [] t:=(rfl)
def zEI:zY prog NF f276=true:=by kernel_rfl
def Uh:Cfg:=zH [] [(1,[(2, .no),(6, .no),(0, .no),(1, .no)]++nr 3 3++nr 7 5)]
def Ah (t:Tmp):Uh.mu t=xc [] t:=(rfl)
def Ai:zY prog Uh f282=true:=by kernel_rfl
def Ui:Cfg:=zH [] []
def Aj (t:Tmp):Ui.mu t=xc [] t:=(rfl)
def Ak:zY prog Ui f294=true:=by kernel_rfl
def NG:Cfg:=zH [] []
def zEJ (t:Tmp):NG.mu t=xc [] t:=(rfl)
def zEK:zY prog NG f300=true:=by kernel_rfl
def NH:Cfg:=zH [] []
def zEL (t:Tmp):NH.mu t=xc [] t:=(rfl)
def zEM:zY prog NH f327=true:=by kernel_rfl
def NI:Cfg:=zH [] []
def NJ (t:Tmp):NI.mu t=xc [] t:=(rfl)
def zEN:zY prog NI f333=true:=by kernel_rfl
def bE:Cfg:=zH [] [(4,[(0, .no),(4, .no)]++nr 1 3++nr 5 6)]
def ly (t:Tmp):bE.mu t=xc [] t:=(rfl)
def Al:zY prog bE f339=true:=by kernel_rfl
def NK:Cfg:=zH [] [(6,[(4, .no)]++nr 0 4++ [(5, .no)]),(8,nr 0 10)]
def pC (t:Tmp):NK.mu t=xc [] t:=(rfl)
def zEO:zY prog NK f387=true:=by kernel_rfl
def zEP:Cfg:=zH [] []
def mu7 (t:Tmp):zEP.mu t=xc [] t:=(rfl)
def ok7:zY prog zEP f7=true:=by kernel_rfl
def RM:Cfg:=zH [] []
def Fc (t:Tmp):RM.mu t=xc [] t:=(rfl)
def zEQ:zY prog RM f19=true:=by kernel_rfl
def Am:Cfg:=zH [] [(6,nr 0 9)]
def zHi:zY prog Am f25=true:=by kernel_rfl
def K5:Cfg:=zH [] [(6,nr 0 10),(11,nr 0 10)]
def Uj (t:Tmp):K5.mu t=xc [] t:=(rfl)
def zGj:zY prog K5 f37=true:=by kernel_rfl
def K6:Cfg:=zH [] []
def Fe (t:Tmp):K6.mu t=xc [] t:=(rfl)
def zGk:zY prog K6 f43=true:=by kernel_rfl
def An:Cfg:=zH [] []
def zHj:zY prog An f49=true:=by kernel_rfl
def Ao:Cfg:=zH [] []
def zHk:zY prog Ao f55=true:=by kernel_rfl
def Ff:Cfg:=zH [] []
def zBw (t:Tmp):Ff.mu t=xc [] t:=(rfl)
def zHl:zY prog Ff f61=true:=by kernel_rfl
def K7:Cfg:=zH [] []
def zHm (t:Tmp):K7.mu t=xc [] t:=(rfl)
def zGl:zY prog K7 f79=true:=by kernel_rfl
def K8:Cfg:=zH [] []
def D8 (t:Tmp):K8.mu t=xc [] t:=(rfl)
def zGm:zY prog K8 f85=true:=by kernel_rfl
def RN:Cfg:=zH [] []
def gz (t:Tmp):RN.mu t=xc [] t:=(rfl)
def zBx:zY prog RN f91=true:=by kernel_rfl
def Ap:Cfg:=zH [] [(7,nr 0 12),(9,nr 0 17),(11,nr 0 21)]
def zHn:zY prog Ap f97=true:=by kernel_rfl
def Hq:Cfg:=zH [] []
def zER:zY prog Hq f103=true:=by kernel_rfl
def Uk:Cfg:=zH [] []
def K9 (t:Tmp):Uk.mu t=xc [] t:=(rfl)
def Aq:zY prog Uk f109=true:=by kernel_rfl
def NL:Cfg:=zH [] []
def zES (t:Tmp):NL.mu t=xc [] t:=(rfl)
def zET:zY prog NL f115=true:=by kernel_rfl
def Ye:Cfg:=zH [] [(3,nr 0 13)]
def Fg (t:Tmp):Ye.mu t=xc [] t:=(rfl)
def Fh:zY prog Ye f121=true:=by kernel_rfl
def NM:Cfg:=zH [] [(3,[(2, .no),(0, .no),(1, .st)]++nr 3 6)]
def NN (t:Tmp):NM.mu t=xc [] t:=(rfl)
def zEU:zY prog NM f127=true:=by kernel_rfl
def Hr:Cfg:=zH [] [(4,nr 0 15),(6,nr 0 18)]
def zEV:zY prog Hr f139=true:=by kernel_rfl
def Ul:Cfg:=zH [] []
def Ar (t:Tmp):Ul.mu t=xc [] t:=(rfl)
def As:zY prog Ul f152=true:=by kernel_rfl
def Hs:Cfg:=zH [7] []
def zEW:zY prog Hs f158=true:=by kernel_rfl
def Um:Cfg:=zH [] []
def JA (t:Tmp):Um.mu t=xc [] t:=(rfl)
def Au:zY prog Um f164=true:=by kernel_rfl
def NO:Cfg:=zH [24] []
def jS (t:Tmp):NO.mu t=xc [24] t:=(rfl)
def zEX:zY prog NO f170=true:=by kernel_rfl
def Ht:Cfg:=zH [] []
def zEY:zY prog Ht f178=true:=by kernel_rfl
def Hu:Cfg:=zH [] [(4,nr 0 17),(6,nr 0 18)]
def zEZ:zY prog Hu f184=true:=by kernel_rfl
def Un:Cfg:=zH [] []
def Av (t:Tmp):Un.mu t=xc [] t:=(rfl)
def Aw:zY prog Un f190=true:=by kernel_rfl
def Uo:Cfg:=zH [] []
def Wl (t:Tmp):Uo.mu t=xc [] t:=(rfl)
def Ax:zY prog Uo f196=true:=by kernel_rfl
def NP:Cfg:=zH [] []
def rC (t:Tmp):NP.mu t=xc [] t:=(rfl)
def zEa:zY prog NP f202=true:=by kernel_rfl
def NQ:Cfg:=zH [] []
def NR (t:Tmp):NQ.mu t=xc [] t:=(rfl)
def zEb:zY prog NQ f208=true:=by kernel_rfl
def Yf:Cfg:=zH [] []
def RO (t:Tmp):Yf.mu t=xc [] t:=(rfl)
def Ay:zY prog Yf f215=true:=by kernel_rfl
def Up:Cfg:=zH [] [(17,nr 0 17)]
def Fi (t:Tmp):Up.mu t=xc [] t:=(rfl)
def Az:zY prog Up f221=true:=by kernel_rfl
def Yg:Cfg:=zH [] []
def NS (t:Tmp):Yg.mu t=xc [] t:=(rfl)
def A0:zY prog Yg f227=true:=by kernel_rfl
def NT:Cfg:=zH [] []
def zEc (t:Tmp):NT.mu t=xc [] t:=(rfl)
def zEd:zY prog NT f239=true:=by kernel_rfl
def Hv:Cfg:=zH [] []
def zEe:zY prog Hv f250=true:=by kernel_rfl
def Uq:Cfg:=zH [] []
def NU (t:Tmp):Uq.mu t=xc [] t:=(rfl)
def A1:zY prog Uq f259=true:=by kernel_rfl
def NV:Cfg:=zH [] []
def Fj (t:Tmp):NV.mu t=xc [] t:=(rfl)
def zEf:zY prog NV f271=true:=by kernel_rfl
def Ur:Cfg:=zH [] []
def zEg (t:Tmp):Ur.mu t=xc [] t:=(rfl)
def A2:zY prog Ur f277=true:=by kernel_rfl
def NW:Cfg:=zH [] []
def zEh (t:Tmp):NW.mu t=xc [] t:=(rfl)
def zEi:zY prog NW f283=true:=by kernel_rfl
def NX:Cfg:=zH [] []
def zEj (t:Tmp):NX.mu t=xc [] t:=(rfl)
def zEk:zY prog NX f301=true:=by kernel_rfl
def NY:Cfg:=zH [] [(6,nr 0 20)]
def RP (t:Tmp):NY.mu t=xc [] t:=(rfl)
def zEl:zY prog NY f328=true:=by kernel_rfl
def Yh:Cfg:=zH [] []
def Yi (t:Tmp):Yh.mu t=xc [] t:=(rfl)
def Fk:zY prog Yh f334=true:=by kernel_rfl
def Us:Cfg:=zH [] []
def zEm (t:Tmp):Us.mu t=xc [] t:=(rfl)
def A3:zY prog Us f340=true:=by kernel_rfl
def Na:Cfg:=zH [] [(4,[(4, .no)]++nr 0 4++ [(5, .no)])]
def Nb (t:Tmp):Na.mu t=xc [] t:=(rfl)
def zEn:zY prog Na f388=true:=by kernel_rfl
def zGn:Cfg:=zH [] [(4,[(0, .st),(1, .no),(2, .no),(3, .st)]++nr 4 6),(5,nr 0 9)]
def ok8:zY prog zGn f8=true:=by kernel_rfl
def A4:Cfg:=zH [] [(6,nr 0 9)]
def zHo:zY prog A4 f14=true:=by kernel_rfl
def JB:Cfg:=zH [] []
def Nc (t:Tmp):JB.mu t=xc [] t:=(rfl)
def zGo:zY prog JB f20=true:=by kernel_rfl
def Fm:Cfg:=zH [] []
def JC (t:Tmp):Fm.mu t=xc [] t:=(rfl)
def zHp:zY prog Fm f26=true:=by kernel_rfl
def JD:Cfg:=zH [] []
def zEo (t:Tmp):JD.mu t=xc [] t:=(rfl)
def zGp:zY prog JD f44=true:=by kernel_rfl
def A5:Cfg:=zH [] []
def zHq:zY prog A5 f50=true:=by kernel_rfl
def Fo:Cfg:=zH [] [(1,nr 0 4++ [(5, .no),(6, .st),(7, .no),(8, .st),(10, .no),(11, .st),(12, .no),(13, .st),(15, .no),(16, .st),(17, .no),(18, .st),(4, .no),(9, .no),(14, .no)]++nr 19 4)]
def zGq (t:Tmp):Fo.mu t=xc [] t:=(rfl)
def zHr:zY prog Fo f56=true:=by kernel_rfl
def Fp:Cfg:=zH [] []
def Nf (t:Tmp):Fp.mu t=xc [] t:=(rfl)
def zHs:zY prog Fp f62=true:=by kernel_rfl
def A6:Cfg:=zH [] [(17,nr 0 15)]
def zHt:zY prog A6 f74=true:=by kernel_rfl
def JE:Cfg:=zH [] []
def zHu (t:Tmp):JE.mu t=xc [] t:=(rfl)
def zGr:zY prog JE f80=true:=by kernel_rfl
def Ng:Cfg:=zH [] []
def zGs (t:Tmp):Ng.mu t=xc [] t:=(rfl)
def zEp:zY prog Ng f86=true:=by kernel_rfl
def Fq:Cfg:=zH [] []
def zGt:zY prog Fq f92=true:=by kernel_rfl
def Hw:Cfg:=zH [] []
def zEq:zY prog Hw f104=true:=by kernel_rfl
def Nh:Cfg:=zH [] [(9,nr 0 25)]
def JF (t:Tmp):Nh.mu t=xc [] t:=(rfl)
def zEr:zY prog Nh f110=true:=by kernel_rfl
def Ut:Cfg:=zH [] []
def JG (t:Tmp):Ut.mu t=xc [] t:=(rfl)
def A7:zY prog Ut f116=true:=by kernel_rfl
def Hx:Cfg:=zH [] []
def zEs:zY prog Hx f122=true:=by kernel_rfl
def Uu:Cfg:=zH [16] [(2,[(0, .st),(1, .no),(2, .st)]++nr 3 6)]
def JH (t:Tmp):Uu.mu t=xc [16] t:=(rfl)
def A8:zY prog Uu f153=true:=by kernel_rfl
def Hy:Cfg:=zH [7] []
def zEt:zY prog Hy f159=true:=by kernel_rfl
def Yj:Cfg:=zH [] []
def ax (t:Tmp):Yj.mu t=xc [] t:=(rfl)
def A9:zY prog Yj f165=true:=by kernel_rfl
def Ni:Cfg:=zH [] []
def zAA (t:Tmp):Ni.mu t=xc [] t:=(rfl)
def zEu:zY prog Ni f171=true:=by kernel_rfl
def Hz:Cfg:=zH [] []
def zEv:zY prog Hz f179=true:=by kernel_rfl
def Uv:Cfg:=zH [] []
def zAB (t:Tmp):Uv.mu t=xc [] t:=(rfl)
def zAC:zY prog Uv f191=true:=by kernel_rfl
def Nj:Cfg:=zH [] [(10,nr 0 12)]
def Yk (t:Tmp):Nj.mu t=xc [] t:=(rfl)
def zEw:zY prog Nj f197=true:=by kernel_rfl
def Nk:Cfg:=zH [] []
def Nl (t:Tmp):Nk.mu t=xc [] t:=(rfl)
def zEy:zY prog Nk f203=true:=by kernel_rfl
def Yl:Cfg:=zH [] [(14,nr 0 12)]
def rD (t:Tmp):Yl.mu t=xc [] t:=(rfl)
def Fs:zY prog Yl f209=true:=by kernel_rfl
def Ym:Cfg:=zH [] [(3,[(0, .st),(4, .st),(1, .no),(2, .no),(3, .st),(5, .no),(6, .no),(7, .st),(8, .no),(9, .st),(10, .no),(11, .no),(12, .st),(13, .st)]++nr 14 6)]
def ay (t:Tmp):Ym.mu t=xc [] t:=(rfl)
def zAD:zY prog Ym f216=true:=by kernel_rfl
def Uw:Cfg:=zH [] []
def Wm (t:Tmp):Uw.mu t=xc [] t:=(rfl)
def zAE:zY prog Uw f222=true:=by kernel_rfl
def Ux:Cfg:=zH [] []
def JI (t:Tmp):Ux.mu t=xc [] t:=(rfl)
def zAF:zY prog Ux f228=true:=by kernel_rfl
def Nm:Cfg:=zH [] []
def zEz (t:Tmp):Nm.mu t=xc [] t:=(rfl)
def zE0:zY prog Nm f234=true:=by kernel_rfl
def Nn:Cfg:=zH [] []
def zE1 (t:Tmp):Nn.mu t=xc [] t:=(rfl)
def zE2:zY prog Nn f240=true:=by kernel_rfl
def No:Cfg:=zH [] [(10,nr 0 14),(15,nr 0 20)]
def fC (t:Tmp):No.mu t=xc [] t:=(rfl)
def zE3:zY prog No f260=true:=by kernel_rfl
def Np:Cfg:=zH [] [(1,nr 0 20)]
def zAG (t:Tmp):Np.mu t=xc [] t:=(rfl)
def zE4:zY prog Np f266=true:=by kernel_rfl
def Nq:Cfg:=zH [] [(8,nr 0 13)]
def dy (t:Tmp):Nq.mu t=xc [] t:=(rfl)
def zE5:zY prog Nq f272=true:=by kernel_rfl
def Uy:Cfg:=zH [] []
def zE6 (t:Tmp):Uy.mu t=xc [] t:=(rfl)
def zAH:zY prog Uy f278=true:=by kernel_rfl
def Uz:Cfg:=zH [] [(4,nr 0 17),(6,nr 0 18)]
def Ft (t:Tmp):Uz.mu t=xc [] t:=(rfl)
def zAI:zY prog Uz f284=true:=by kernel_rfl
def Nr:Cfg:=zH [] []
def Ns (t:Tmp):Nr.mu t=xc [] t:=(rfl)
def zE7:zY prog Nr f323=true:=by kernel_rfl
def Nt:Cfg:=zH [] [(6,nr 0 12)]
def RQ (t:Tmp):Nt.mu t=xc [] t:=(rfl)
def zE8:zY prog Nt f329=true:=by kernel_rfl
def Nu:Cfg:=zH [] []
def zAJ (t:Tmp):Nu.mu t=xc [] t:=(rfl)
def zE9:zY prog Nu f335=true:=by kernel_rfl
def U0:Cfg:=zH [] [(1,[(2, .no),(6, .no),(0, .no),(1, .no)]++nr 3 3++nr 7 5)]
def zAK (t:Tmp):U0.mu t=xc [] t:=(rfl)
def zAL:zY prog U0 f341=true:=by kernel_rfl
def Nv:Cfg:=zH [] []
def zFA (t:Tmp):Nv.mu t=xc [] t:=(rfl)
def zFB:zY prog Nv f389=true:=by kernel_rfl
set_option maxRecDepth 100000
def tab:List (Nat× (Func×Cfg)):=[(8,(f8,zGn)),(12,(f12,AQ)),(14,(f14,A4)),(15,(f15,BO)),(17,(f17,B5)),(18,(f18,AR)),(19,(f19,RM)),(20,(f20,JB)),(24,(f24,AS)),(25,(f25,Am)),(29,(f29,Pg)),(30,(f30,AT)),(36,(f36,AU)),(37,(f37,K5)),(39,(f39,Kg)),(40,(f40,Km)),(41,(f41,Ph)),(42,(f42,K2)),(43,(f43,K6)),(44,(f44,JD)),(45,(f45,FR)),(47,(f47,Kv)),(48,(f48,FY)),(49,(f49,An)),(50,(f50,A5)),(51,(f51,BP)),(52,(f52,Ko)),(53,(f53,B7)),(55,(f55,Ao)),(57,(f57,BQ)),(59,(f59,Kw)),(63,(f63,Kh)),(64,(f64,Bk)),(65,(f65,B8)),(66,(f66,AV)),(74,(f74,A6)),(75,(f75,BR)),(76,(f76,Kp)),(77,(f77,Kx)),(78,(f78,K3)),(79,(f79,K7)),(80,(f80,JE)),(81,(f81,Ki)),(82,(f82,Kq)),(83,(f83,RJ)),(84,(f84,K4)),(85,(f85,K8)),(86,(f86,Ng)),(87,(f87,Kj)),(88,(f88,Kr)),(89,(f89,Ky)),(90,(f90,P4)),(91,(f91,RN)),(92,(f92,Fq)),(93,(f93,Q9)),(94,(f94,Ks)),(95,(f95,B9)),(96,(f96,AW)),(97,(f97,Ap)),(99,(f99,BS)),(101,(f101,Hh)),(102,(f102,Uc)),(103,(f103,Hq)),(104,(f104,Hw)),(105,(f105,PA)),(106,(f106,PQ)),(107,(f107,Hi)),(108,(f108,Ud)),(109,(f109,Uk)),(111,(f111,V7)),(116,(f116,Ut)),(117,(f117,V8)),(118,(f118,UI)),(119,(f119,Hj)),(120,(f120,Ho)),(121,(f121,Ye)),(122,(f122,Hx)),(123,(f123,HZ)),(124,(f124,He)),(125,(f125,UU)),(139,(f139,Hr)),(148,(f148,Ha)),(149,(f149,UJ)),(150,(f150,UV)),(151,(f151,Ue)),(152,(f152,Ul)),(153,(f153,Uu)),(154,(f154,V9)),(155,(f155,UK)),(156,(f156,UW)),(157,(f157,Ya)),(158,(f158,Hs)),(159,(f159,Hy)),(160,(f160,UA)),(161,(f161,UL)),(162,(f162,UX)),(163,(f163,P6)),(164,(f164,Um)),(165,(f165,Yj)),(166,(f166,UB)),(167,(f167,UM)),(174,(f174,Hf)),(176,(f176,Pq)),(177,(f177,Hp)),(178,(f178,Ht)),(179,(f179,Hz)),(180,(f180,Hb)),(181,(f181,Hg)),(182,(f182,Hk)),(184,(f184,Hu)),(186,(f186,Hc)),(188,(f188,Hl)),(190,(f190,Un)),(191,(f191,Uv)),(193,(f193,UN)),(195,(f195,Uf)),(198,(f198,UC)),(199,(f199,UO)),(200,(f200,Hm)),(215,(f215,Yf)),(216,(f216,Ym)),(217,(f217,bB)),(218,(f218,bC)),(219,(f219,bD)),(220,(f220,Yc)),(221,(f221,Up)),(222,(f222,Uw)),(223,(f223,UD)),(224,(f224,PU)),(225,(f225,Ps)),(226,(f226,P9)),(227,(f227,Yg)),(228,(f228,Ux)),(229,(f229,UE)),(230,(f230,UP)),(231,(f231,UY)),(232,(f232,Ug)),(250,(f250,Hv)),(259,(f259,Uq)),(274,(f274,UR)),(275,(f275,UZ)),(277,(f277,Ur)),(278,(f278,Uy)),(280,(f280,US)),(281,(f281,Ua)),(282,(f282,Uh)),(284,(f284,Uz)),(292,(f292,PZ)),(293,(f293,Px)),(294,(f294,Ui)),(315,(f315,Hd)),(339,(f339,bE)),(340,(f340,Us)),(341,(f341,U0)),(342,(f342,UF)),(343,(f343,UT)),(344,(f344,Ub)),(348,(f348,PM)),(390,(f390,UG)),(392,(f392,P3)),(408,(f408,UH))]
def yL:lh prog tab:=⟨⟨func8,ok8⟩,⟨func12,zHZ⟩,⟨func14,zHo⟩,⟨func15,zHE⟩,⟨func17,zHS⟩,⟨func18,zHa⟩,⟨func19,zEQ⟩,⟨func20,zGo⟩,⟨func24,zHb⟩,⟨func25,zHi⟩,⟨func29,zDk⟩,⟨func30,zHc⟩,⟨func36,zHd⟩,⟨func37,zGj⟩,⟨func39,zGL⟩,⟨func40,zGS⟩,⟨func41,zGZ⟩,⟨func42,zGe⟩,⟨func43,zGk⟩,⟨func44,zGp⟩,⟨func45,zGM⟩,⟨func47,zGa⟩,⟨func48,zGf⟩,⟨func49,zHj⟩,⟨func50,zHq⟩,⟨func51,zHG⟩,⟨func52,zGT⟩,⟨func53,zHV⟩,⟨func55,zHk⟩,⟨func57,zHH⟩,⟨func59,zGb⟩,⟨func63,zGN⟩,⟨func64,zHP⟩,⟨func65,zHW⟩,⟨func66,zHg⟩,⟨func74,zHt⟩,⟨func75,zHJ⟩,⟨func76,zGV⟩,⟨func77,zGc⟩,⟨func78,zGg⟩,⟨func79,zGl⟩,⟨func80,zGr⟩,⟨func81,zGO⟩,⟨func82,zGW⟩,⟨func83,zBu⟩,⟨func84,zGh⟩,⟨func85,zGm⟩,⟨func86,zEp⟩,⟨func87,zGP⟩,⟨func88,zGX⟩,⟨func89,zGd⟩,⟨func90,zGi⟩,⟨func91,zBx⟩,⟨func92,zGt⟩,⟨func93,zC0⟩,⟨func94,zGY⟩,⟨func95,zHY⟩,⟨func96,zHh⟩,⟨func97,zHn⟩,⟨func99,zHM⟩,⟨func101,zDl⟩,⟨func102,AX⟩,⟨func103,zER⟩,⟨func104,zEq⟩,⟨func105,BT⟩,⟨func106,Bl⟩,⟨func107,zDm⟩,⟨func108,AY⟩,⟨func109,Aq⟩,⟨func111,BU⟩,⟨func116,A7⟩,⟨func117,BV⟩,⟨func118,Bn⟩,⟨func119,zDo⟩,⟨func120,zEC⟩,⟨func121,Fh⟩,⟨func122,zEs⟩,⟨func123,zC1⟩,⟨func124,zDR⟩,⟨func125,AA⟩,⟨func139,zEV⟩,⟨func148,zC2⟩,⟨func149,Bo⟩,⟨func150,AB⟩,⟨func151,Aa⟩,⟨func152,As⟩,⟨func153,A8⟩,⟨func154,BW⟩,⟨func155,Bp⟩,⟨func156,AD⟩,⟨func157,Fa⟩,⟨func158,zEW⟩,⟨func159,zEt⟩,⟨func160,BX⟩,⟨func161,Bq⟩,⟨func162,AE⟩,⟨func163,Ab⟩,⟨func164,Au⟩,⟨func165,A9⟩,⟨func166,BY⟩,⟨func167,Bs⟩,⟨func174,zDV⟩,⟨func176,AF⟩,⟨func177,zEE⟩,⟨func178,zEY⟩,⟨func179,zEv⟩,⟨func180,zC7⟩,⟨func181,zDW⟩,⟨func182,zDt⟩,⟨func184,zEZ⟩,⟨func186,zC8⟩,⟨func188,zDu⟩,⟨func190,Aw⟩,⟨func191,zAC⟩,⟨func193,Bt⟩,⟨func195,Ad⟩,⟨func198,BZ⟩,⟨func199,Bu⟩,⟨func200,zDw⟩,⟨func215,Ay⟩,⟨func216,zAD⟩,⟨func217,Ba⟩,⟨func218,Bv⟩,⟨func219,AG⟩,⟨func220,Ae⟩,⟨func221,Az⟩,⟨func222,zAE⟩,⟨func223,Bb⟩,⟨func224,Bw⟩,⟨func225,AH⟩,⟨func226,Af⟩,⟨func227,A0⟩,⟨func228,zAF⟩,⟨func229,Bc⟩,⟨func230,Bx⟩,⟨func231,AJ⟩,⟨func232,Ag⟩,⟨func250,zEe⟩,⟨func259,A1⟩,⟨func274,B0⟩,⟨func275,AK⟩,⟨func277,A2⟩,⟨func278,zAH⟩,⟨func280,B1⟩,⟨func281,AL⟩,⟨func282,Ai⟩,⟨func284,zAI⟩,⟨func292,B3⟩,⟨func293,AM⟩,⟨func294,Ak⟩,⟨func315,zDJ⟩,⟨func339,Al⟩,⟨func340,A3⟩,⟨func341,zAL⟩,⟨func342,Bf⟩,⟨func343,B4⟩,⟨func344,AO⟩,⟨func348,Bg⟩,⟨func390,Bh⟩,⟨func392,AP⟩,⟨func408,Bi⟩,trivial⟩
def mix:prog.follows .mixedOrders=true:=by kernel_rfl
attribute[go_sem] mu9 zGJ HY ao zCz Wb zHK FT zHL YW Wc zC3 zC4 zC5 Kk zC9 aq gv zDB zDC zDD Bd gx PH Be Wd We ar lv PO zDO Wf zGQ PP Bj zDP zGU zHQ zBt FW zHR YX Bm RI PT zDT zDU Br zDX zDY mV YY By PW jP Bz zDd dx Wg Kt Pd Ku av Wh B6 zDj D7 zHU aw zHX dZ RK sU zDp Kz Pm Pn AC Po gy Wi lw AI mW YZ K0 RL jQ zD1 zD2 zD4 K1 Wj AN zD8 zHe Zq Hn zBv Lv zEA uH AZ jR nS Ac Wk mX P8 Yd lx sV zEH Ah Aj zEJ zEL NJ ly pC mu7 Fc Uj Fe zBw zHm D8 gz K9 zES Fg NN Ar JA jS Av Wl rC NR RO Fi NS zEc NU Fj zEg zEh zEj RP Yi zEm Nb Nc JC zEo zGq Nf zHu zGs JF JG JH ax zAA zAB Yk Nl rD ay Wm JI zEz zE1 fC zAG dy zE6 Ft Ns RQ zAJ zAK zFA
end Go.V
end
