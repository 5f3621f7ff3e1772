/- How functions of this program are read by the machine, part 1. No condition. -/
import Derived.Test.YtalepjdbhjinhaaGreatDoorW04
import Derived.KernelRfl
import Derived.Test.YtalepjdbhjinhaaGreatDoorProg
set_option linter.all false
noncomputable section
namespace Go.V
open Go.Proofs
def zdG:Cfg:=zD [] [(16,nr 0 18)]
theorem mu3 (t:Tmp):zdG.mu t=List.contains (α:=Nat) [] t:=(rfl)
theorem ok3:zY Tryz.prog zdG Tryz.f3=true:=by kernel_rfl
def zdH:Cfg:=zD [] []
theorem ok9:zY Tryz.prog zdH Tryz.f9=true:=by kernel_rfl
def zWf:Cfg:=zD [] []
theorem zg0 (t:Tmp):zWf.mu t=List.contains (α:=Nat) [] t:=(rfl)
theorem zg1:zY Tryz.prog zWf Tryz.f15=true:=by kernel_rfl
def zZu:Cfg:=zD [] [(20,[(0, .no),(1, .st),(2, .no),(3, .st),(4, .no),(7, .no),(8, .st),(9, .no),(10, .st),(11, .no),(14, .no),(15, .st),(16, .no),(17, .st),(18, .no),(5, .st),(6, .st),(12, .st),(13, .st),(19, .st),(20, .st)]++nr 21 3)]
theorem zg2:zY Tryz.prog zZu Tryz.f21=true:=by kernel_rfl
def zWg:Cfg:=zD [] []
theorem zSh (t:Tmp):zWg.mu t=List.contains (α:=Nat) [] t:=(rfl)
theorem zg3:zY Tryz.prog zWg Tryz.f33=true:=by kernel_rfl
def zSi:Cfg:=zD [] []
theorem zI1 (t:Tmp):zSi.mu t=List.contains (α:=Nat) [] t:=(rfl)
theorem zf0:zY Tryz.prog zSi Tryz.f39=true:=by kernel_rfl
def zWh:Cfg:=zD [] []
theorem zf1:zY Tryz.prog zWh Tryz.f45=true:=by kernel_rfl
def zZv:Cfg:=zD [] [(1,nr 0 12)]
theorem zg4:zY Tryz.prog zZv Tryz.f51=true:=by kernel_rfl
def zWi:Cfg:=zD [] []
theorem zf2:zY Tryz.prog zWi Tryz.f60=true:=by kernel_rfl
def zZw:Cfg:=zD [] []
theorem zg5:zY Tryz.prog zZw Tryz.f72=true:=by kernel_rfl
def zWj:Cfg:=zD [] [(7,nr 0 26),(11,nr 0 26),(15,nr 0 18),(23,nr 0 18)]
theorem zGK (t:Tmp):zWj.mu t=List.contains (α:=Nat) [] t:=(rfl)
theorem zg6:zY Tryz.prog zWj Tryz.f78=true:=by kernel_rfl
def zZx:Cfg:=zD [] []
theorem zg7:zY Tryz.prog zZx Tryz.f84=true:=by kernel_rfl
def zSj:Cfg:=zD [] []
theorem zg8 (t:Tmp):zSj.mu t=List.contains (α:=Nat) [] t:=(rfl)
theorem zf3:zY Tryz.prog zSj Tryz.f90=true:=by kernel_rfl
def zWk:Cfg:=zD [] [(9,nr 0 25)]
theorem zcV (t:Tmp):zWk.mu t=List.contains (α:=Nat) [] t:=(rfl)
theorem zg9:zY Tryz.prog zWk Tryz.f96=true:=by kernel_rfl
def zUc:Cfg:=zD [] []
theorem zdI:zY Tryz.prog zUc Tryz.f102=true:=by kernel_rfl
def zM0:Cfg:=zD [31] []
theorem zdJ (t:Tmp):zM0.mu t=List.contains (α:=Nat) [31] t:=(rfl)
theorem zZy:zY Tryz.prog zM0 Tryz.f110=true:=by kernel_rfl
def zP0:Cfg:=zD [] []
theorem zZz:zY Tryz.prog zP0 Tryz.f122=true:=by kernel_rfl
def zUd:Cfg:=zD [] [(8,nr 0 12),(10,nr 0 17),(14,nr 0 9++nr 10 4++ [(14, .st),(15, .no),(16, .no),(9, .no)]++nr 17 9)]
theorem zdK:zY Tryz.prog zUd Tryz.f128=true:=by kernel_rfl
def zM1:Cfg:=zD [] []
theorem zLm (t:Tmp):zM1.mu t=List.contains (α:=Nat) [] t:=(rfl)
theorem zZ0:zY Tryz.prog zM1 Tryz.f134=true:=by kernel_rfl
def zM2:Cfg:=zD [] []
theorem zZ1 (t:Tmp):zM2.mu t=List.contains (α:=Nat) [] t:=(rfl)
theorem zZ2:zY Tryz.prog zM2 Tryz.f140=true:=by kernel_rfl
def zM3:Cfg:=zD [] [(4,nr 0 10)]
theorem zLn (t:Tmp):zM3.mu t=List.contains (α:=Nat) [] t:=(rfl)
theorem zZ3:zY Tryz.prog zM3 Tryz.f146=true:=by kernel_rfl
def zP1:Cfg:=zD [] []
theorem zZ4:zY Tryz.prog zP1 Tryz.f164=true:=by kernel_rfl
def zUe:Cfg:=zD [] [(4,nr 0 17),(6,nr 0 18)]
theorem zdL:zY Tryz.prog zUe Tryz.f171=true:=by kernel_rfl
def zP2:Cfg:=zD [] []
theorem zZ5:zY Tryz.prog zP2 Tryz.f177=true:=by kernel_rfl
def zP3:Cfg:=zD [] [(11,nr 0 19)]
theorem zEU (t:Tmp):zP3.mu t=List.contains (α:=Nat) [] t:=(rfl)
theorem zdM:zY Tryz.prog zP3 Tryz.f183=true:=by kernel_rfl
def zKJ:Cfg:=zD [] []
theorem zHK (t:Tmp):zKJ.mu t=List.contains (α:=Nat) [] t:=(rfl)
theorem zZ6:zY Tryz.prog zKJ Tryz.f196=true:=by kernel_rfl
def zUf:Cfg:=zD [] []
theorem zdN:zY Tryz.prog zUf Tryz.f211=true:=by kernel_rfl
def zKK:Cfg:=zD [] []
theorem zI2 (t:Tmp):zKK.mu t=List.contains (α:=Nat) [] t:=(rfl)
theorem zZ7:zY Tryz.prog zKK Tryz.f225=true:=by kernel_rfl
def zP4:Cfg:=zD [] []
theorem zZ8 (t:Tmp):zP4.mu t=List.contains (α:=Nat) [] t:=(rfl)
theorem zdO:zY Tryz.prog zP4 Tryz.f231=true:=by kernel_rfl
def zKL:Cfg:=zD [] []
theorem zP5 (t:Tmp):zKL.mu t=List.contains (α:=Nat) [] t:=(rfl)
theorem zZ9:zY Tryz.prog zKL Tryz.f252=true:=by kernel_rfl
def zP6:Cfg:=zD [] []
theorem zdP (t:Tmp):zP6.mu t=List.contains (α:=Nat) [] t:=(rfl)
theorem zdQ:zY Tryz.prog zP6 Tryz.f258=true:=by kernel_rfl
def zP7:Cfg:=zD [] []
theorem zdR (t:Tmp):zP7.mu t=List.contains (α:=Nat) [] t:=(rfl)
theorem zdS:zY Tryz.prog zP7 Tryz.f264=true:=by kernel_rfl
def zP8:Cfg:=zD [] [(11,nr 0 20),(16,nr 0 12)]
theorem zGL (t:Tmp):zP8.mu t=List.contains (α:=Nat) [] t:=(rfl)
theorem zdT:zY Tryz.prog zP8 Tryz.f280=true:=by kernel_rfl
def zP9:Cfg:=zD [] []
theorem zQA (t:Tmp):zP9.mu t=List.contains (α:=Nat) [] t:=(rfl)
theorem zdU:zY Tryz.prog zP9 Tryz.f295=true:=by kernel_rfl
def zQB:Cfg:=zD [] []
theorem zYk (t:Tmp):zQB.mu t=List.contains (α:=Nat) [] t:=(rfl)
theorem zf4:zY Tryz.prog zQB Tryz.f10=true:=by kernel_rfl
def zWl:Cfg:=zD [] []
theorem zhA (t:Tmp):zWl.mu t=List.contains (α:=Nat) [] t:=(rfl)
theorem zhB:zY Tryz.prog zWl Tryz.f16=true:=by kernel_rfl
def zaA:Cfg:=zD [] []
theorem zhC:zY Tryz.prog zaA Tryz.f22=true:=by kernel_rfl
def zSk:Cfg:=zD [7] []
theorem zhD (t:Tmp):zSk.mu t=List.contains (α:=Nat) [7] t:=(rfl)
theorem zf5:zY Tryz.prog zSk Tryz.f28=true:=by kernel_rfl
def zWm:Cfg:=zD [] []
theorem zUg (t:Tmp):zWm.mu t=List.contains (α:=Nat) [] t:=(rfl)
theorem zhE:zY Tryz.prog zWm Tryz.f34=true:=by kernel_rfl
def zQC:Cfg:=zD [] []
theorem zf6 (t:Tmp):zQC.mu t=List.contains (α:=Nat) [] t:=(rfl)
theorem zdV:zY Tryz.prog zQC Tryz.f40=true:=by kernel_rfl
def zaB:Cfg:=zD [33] []
theorem zhF:zY Tryz.prog zaB Tryz.f46=true:=by kernel_rfl
def zWn:Cfg:=zD [] [(7,nr 0 14)]
theorem zf7:zY Tryz.prog zWn Tryz.f55=true:=by kernel_rfl
def zaC:Cfg:=zD [] []
theorem zhG:zY Tryz.prog zaC Tryz.f61=true:=by kernel_rfl
def zSl:Cfg:=zD [] []
theorem zdW (t:Tmp):zSl.mu t=List.contains (α:=Nat) [] t:=(rfl)
theorem zf8:zY Tryz.prog zSl Tryz.f67=true:=by kernel_rfl
def zWo:Cfg:=zD [] [(1,nr 0 4++ [(5, .no),(6, .st),(7, .no),(8, .st),(4, .no)]++nr 9 4)]
theorem zf9 (t:Tmp):zWo.mu t=List.contains (α:=Nat) [] t:=(rfl)
theorem zhH:zY Tryz.prog zWo Tryz.f73=true:=by kernel_rfl
def zWp:Cfg:=zD [] []
theorem zgA (t:Tmp):zWp.mu t=List.contains (α:=Nat) [] t:=(rfl)
theorem zhI:zY Tryz.prog zWp Tryz.f79=true:=by kernel_rfl
def zaD:Cfg:=zD [] [(6,nr 0 10),(11,nr 0 10)]
theorem zhJ:zY Tryz.prog zaD Tryz.f85=true:=by kernel_rfl
def zSm:Cfg:=zD [] []
theorem zhK (t:Tmp):zSm.mu t=List.contains (α:=Nat) [] t:=(rfl)
theorem zgB:zY Tryz.prog zSm Tryz.f91=true:=by kernel_rfl
def zSn:Cfg:=zD [] [(16,nr 0 8++ [(13, .no)]++nr 8 5++nr 14 4)]
theorem zUh (t:Tmp):zSn.mu t=List.contains (α:=Nat) [] t:=(rfl)
theorem zgC:zY Tryz.prog zSn Tryz.f97=true:=by kernel_rfl
def zUi:Cfg:=zD [] []
theorem zdX:zY Tryz.prog zUi Tryz.f103=true:=by kernel_rfl
def zUj:Cfg:=zD [] []
theorem zdY:zY Tryz.prog zUj Tryz.f111=true:=by kernel_rfl
def zUk:Cfg:=zD [] []
theorem zdZ:zY Tryz.prog zUk Tryz.f117=true:=by kernel_rfl
def zUl:Cfg:=zD [] []
theorem zda:zY Tryz.prog zUl Tryz.f123=true:=by kernel_rfl
def zUm:Cfg:=zD [] []
theorem zdb:zY Tryz.prog zUm Tryz.f129=true:=by kernel_rfl
def zM4:Cfg:=zD [] []
theorem zWq (t:Tmp):zM4.mu t=List.contains (α:=Nat) [] t:=(rfl)
theorem zaE:zY Tryz.prog zM4 Tryz.f135=true:=by kernel_rfl
def zM5:Cfg:=zD [] []
theorem zaF (t:Tmp):zM5.mu t=List.contains (α:=Nat) [] t:=(rfl)
theorem zaG:zY Tryz.prog zM5 Tryz.f141=true:=by kernel_rfl
def zQD:Cfg:=zD [] []
theorem zaH:zY Tryz.prog zQD Tryz.f147=true:=by kernel_rfl
def zUn:Cfg:=zD [] [(4,nr 0 5)]
theorem zdc:zY Tryz.prog zUn Tryz.f166=true:=by kernel_rfl
def zUo:Cfg:=zD [] [(4,nr 0 17),(6,nr 0 18)]
theorem zdd:zY Tryz.prog zUo Tryz.f178=true:=by kernel_rfl
def zUp:Cfg:=zD [] [(4,nr 0 15),(6,nr 0 18)]
theorem zde:zY Tryz.prog zUp Tryz.f184=true:=by kernel_rfl
def zUq:Cfg:=zD [] []
theorem zdf:zY Tryz.prog zUq Tryz.f190=true:=by kernel_rfl
def zHx:Cfg:=zD [] []
theorem zAl (t:Tmp):zHx.mu t=List.contains (α:=Nat) [] t:=(rfl)
theorem zSo:zY Tryz.prog zHx Tryz.f197=true:=by kernel_rfl
def zM6:Cfg:=zD [] []
theorem zdg (t:Tmp):zM6.mu t=List.contains (α:=Nat) [] t:=(rfl)
theorem zaI:zY Tryz.prog zM6 Tryz.f226=true:=by kernel_rfl
def zQE:Cfg:=zD [] []
theorem zSp (t:Tmp):zQE.mu t=List.contains (α:=Nat) [] t:=(rfl)
theorem zdh:zY Tryz.prog zQE Tryz.f232=true:=by kernel_rfl
def zM7:Cfg:=zD [] []
theorem zSq (t:Tmp):zM7.mu t=List.contains (α:=Nat) [] t:=(rfl)
theorem zaJ:zY Tryz.prog zM7 Tryz.f253=true:=by kernel_rfl
def zQF:Cfg:=zD [] []
theorem zdi (t:Tmp):zQF.mu t=List.contains (α:=Nat) [] t:=(rfl)
theorem zdj:zY Tryz.prog zQF Tryz.f259=true:=by kernel_rfl
def zQG:Cfg:=zD [] []
theorem zaK (t:Tmp):zQG.mu t=List.contains (α:=Nat) [] t:=(rfl)
theorem zdk:zY Tryz.prog zQG Tryz.f265=true:=by kernel_rfl
def zQH:Cfg:=zD [] [(11,nr 0 8),(16,nr 0 12),(18,nr 0 3++ [(9, .no)]++nr 3 6++nr 10 3)]
theorem zFB (t:Tmp):zQH.mu t=List.contains (α:=Nat) [] t:=(rfl)
theorem zdl:zY Tryz.prog zQH Tryz.f281=true:=by kernel_rfl
def zQI:Cfg:=zD [] []
theorem zLo (t:Tmp):zQI.mu t=List.contains (α:=Nat) [] t:=(rfl)
theorem zdm:zY Tryz.prog zQI Tryz.f287=true:=by kernel_rfl
def zQJ:Cfg:=zD [] []
theorem zLp (t:Tmp):zQJ.mu t=List.contains (α:=Nat) [] t:=(rfl)
theorem zdn:zY Tryz.prog zQJ Tryz.f296=true:=by kernel_rfl
def zWr:Cfg:=zD [] []
theorem zhL (t:Tmp):zWr.mu t=List.contains (α:=Nat) [] t:=(rfl)
theorem zhM:zY Tryz.prog zWr Tryz.f11=true:=by kernel_rfl
def zWs:Cfg:=zD [] []
theorem zhN (t:Tmp):zWs.mu t=List.contains (α:=Nat) [] t:=(rfl)
theorem zhO:zY Tryz.prog zWs Tryz.f17=true:=by kernel_rfl
def zaL:Cfg:=zD [] []
theorem zhP:zY Tryz.prog zaL Tryz.f23=true:=by kernel_rfl
def zaM:Cfg:=zD [17] [(7,nr 0 10)]
theorem zhQ:zY Tryz.prog zaM Tryz.f29=true:=by kernel_rfl
def zSr:Cfg:=zD [] []
theorem zO3 (t:Tmp):zSr.mu t=List.contains (α:=Nat) [] t:=(rfl)
theorem zgD:zY Tryz.prog zSr Tryz.f35=true:=by kernel_rfl
def zWt:Cfg:=zD [] []
theorem zaN (t:Tmp):zWt.mu t=List.contains (α:=Nat) [] t:=(rfl)
theorem zhR:zY Tryz.prog zWt Tryz.f41=true:=by kernel_rfl
def zaO:Cfg:=zD [] [(7,nr 0 21)]
theorem zhS:zY Tryz.prog zaO Tryz.f47=true:=by kernel_rfl
def zWu:Cfg:=zD [] []
theorem zgE:zY Tryz.prog zWu Tryz.f56=true:=by kernel_rfl
def zWv:Cfg:=zD [] []
theorem zgF:zY Tryz.prog zWv Tryz.f62=true:=by kernel_rfl
def zaP:Cfg:=zD [] []
theorem zhT:zY Tryz.prog zaP Tryz.f68=true:=by kernel_rfl
def zaQ:Cfg:=zD [] []
theorem zhU:zY Tryz.prog zaQ Tryz.f74=true:=by kernel_rfl
def zWw:Cfg:=zD [] []
theorem zhV (t:Tmp):zWw.mu t=List.contains (α:=Nat) [] t:=(rfl)
theorem zhW:zY Tryz.prog zWw Tryz.f80=true:=by kernel_rfl
def zSs:Cfg:=zD [] []
theorem zQK (t:Tmp):zSs.mu t=List.contains (α:=Nat) [] t:=(rfl)
theorem zgG:zY Tryz.prog zSs Tryz.f86=true:=by kernel_rfl
def zQL:Cfg:=zD [] []
theorem zI3 (t:Tmp):zQL.mu t=List.contains (α:=Nat) [] t:=(rfl)
theorem zgH:zY Tryz.prog zQL Tryz.f92=true:=by kernel_rfl
def zWx:Cfg:=zD [] [(9,nr 0 9++ [(14, .no)]++nr 9 5++nr 15 4)]
theorem zUr (t:Tmp):zWx.mu t=List.contains (α:=Nat) [] t:=(rfl)
theorem zhX:zY Tryz.prog zWx Tryz.f98=true:=by kernel_rfl
def zUs:Cfg:=zD [] []
theorem zdo:zY Tryz.prog zUs Tryz.f106=true:=by kernel_rfl
def zUt:Cfg:=zD [] []
theorem zdp:zY Tryz.prog zUt Tryz.f112=true:=by kernel_rfl
def zM8:Cfg:=zD [] []
theorem zdq (t:Tmp):zM8.mu t=List.contains (α:=Nat) [] t:=(rfl)
theorem zaR:zY Tryz.prog zM8 Tryz.f118=true:=by kernel_rfl
def zUu:Cfg:=zD [] []
theorem zdr:zY Tryz.prog zUu Tryz.f124=true:=by kernel_rfl
def zM9:Cfg:=zD [] []
theorem zLq (t:Tmp):zM9.mu t=List.contains (α:=Nat) [] t:=(rfl)
theorem zaS:zY Tryz.prog zM9 Tryz.f130=true:=by kernel_rfl
def zNA:Cfg:=zD [] []
theorem zQM (t:Tmp):zNA.mu t=List.contains (α:=Nat) [] t:=(rfl)
theorem zaT:zY Tryz.prog zNA Tryz.f136=true:=by kernel_rfl
def zQN:Cfg:=zD [] []
theorem zds (t:Tmp):zQN.mu t=List.contains (α:=Nat) [] t:=(rfl)
theorem zdt:zY Tryz.prog zQN Tryz.f142=true:=by kernel_rfl
def zUv:Cfg:=zD [] []
theorem zdu:zY Tryz.prog zUv Tryz.f149=true:=by kernel_rfl
def zUw:Cfg:=zD [] []
theorem zdv:zY Tryz.prog zUw Tryz.f167=true:=by kernel_rfl
def zUx:Cfg:=zD [] [(4,nr 0 17),(6,nr 0 18)]
theorem zdw:zY Tryz.prog zUx Tryz.f173=true:=by kernel_rfl
def zQO:Cfg:=zD [] []
theorem zQP (t:Tmp):zQO.mu t=List.contains (α:=Nat) [] t:=(rfl)
theorem zdx:zY Tryz.prog zQO Tryz.f198=true:=by kernel_rfl
def zNB:Cfg:=zD [] []
theorem zaU (t:Tmp):zNB.mu t=List.contains (α:=Nat) [] t:=(rfl)
theorem zaV:zY Tryz.prog zNB Tryz.f227=true:=by kernel_rfl
def zQQ:Cfg:=zD [] []
theorem zaW:zY Tryz.prog zQQ Tryz.f240=true:=by kernel_rfl
def zQR:Cfg:=zD [] []
theorem zA1 (t:Tmp):zQR.mu t=List.contains (α:=Nat) [] t:=(rfl)
theorem zdy:zY Tryz.prog zQR Tryz.f248=true:=by kernel_rfl
def zNC:Cfg:=zD [] []
theorem zdz (t:Tmp):zNC.mu t=List.contains (α:=Nat) [] t:=(rfl)
theorem zaX:zY Tryz.prog zNC Tryz.f254=true:=by kernel_rfl
def zQS:Cfg:=zD [] [(1,nr 0 4++ [(5, .no),(6, .st),(7, .no),(8, .st),(4, .no)]++nr 9 4)]
theorem zaY (t:Tmp):zQS.mu t=List.contains (α:=Nat) [] t:=(rfl)
theorem zd0:zY Tryz.prog zQS Tryz.f260=true:=by kernel_rfl
def zND:Cfg:=zD [2] []
theorem zQT (t:Tmp):zND.mu t=List.contains (α:=Nat) [2] t:=(rfl)
theorem zd1:zY Tryz.prog zND Tryz.f266=true:=by kernel_rfl
def zQU:Cfg:=zD [] [(4,nr 0 9++ [(15, .no)]++nr 9 6++nr 16 4)]
theorem zSt (t:Tmp):zQU.mu t=List.contains (α:=Nat) [] t:=(rfl)
theorem zd2:zY Tryz.prog zQU Tryz.f282=true:=by kernel_rfl
def zQV:Cfg:=zD [] []
theorem zd3 (t:Tmp):zQV.mu t=List.contains (α:=Nat) [] t:=(rfl)
theorem zd4:zY Tryz.prog zQV Tryz.f288=true:=by kernel_rfl
def zQW:Cfg:=zD [] []
theorem zSu (t:Tmp):zQW.mu t=List.contains (α:=Nat) [] t:=(rfl)
theorem zd5:zY Tryz.prog zQW Tryz.f297=true:=by kernel_rfl
def zgI:Cfg:=zD [] []
theorem ok6:zY Tryz.prog zgI Tryz.f6=true:=by kernel_rfl
def zWy:Cfg:=zD [] []
theorem zhY (t:Tmp):zWy.mu t=List.contains (α:=Nat) [] t:=(rfl)
theorem zhZ:zY Tryz.prog zWy Tryz.f12=true:=by kernel_rfl
def zSv:Cfg:=zD [] []
theorem zgJ (t:Tmp):zSv.mu t=List.contains (α:=Nat) [] t:=(rfl)
theorem zgK:zY Tryz.prog zSv Tryz.f18=true:=by kernel_rfl
def zaZ:Cfg:=zD [] []
theorem zha:zY Tryz.prog zaZ Tryz.f24=true:=by kernel_rfl
def zaa:Cfg:=zD [] []
theorem zhb:zY Tryz.prog zaa Tryz.f30=true:=by kernel_rfl
def zQX:Cfg:=zD [] []
theorem zgL (t:Tmp):zQX.mu t=List.contains (α:=Nat) [] t:=(rfl)
theorem zd6:zY Tryz.prog zQX Tryz.f36=true:=by kernel_rfl
def zSw:Cfg:=zD [] []
theorem zI4 (t:Tmp):zSw.mu t=List.contains (α:=Nat) [] t:=(rfl)
theorem zgM:zY Tryz.prog zSw Tryz.f42=true:=by kernel_rfl
def zWz:Cfg:=zD [] []
theorem zgN:zY Tryz.prog zWz Tryz.f48=true:=by kernel_rfl
def zW0:Cfg:=zD [] []
theorem zgO:zY Tryz.prog zW0 Tryz.f57=true:=by kernel_rfl
def zW1:Cfg:=zD [] []
theorem zgP:zY Tryz.prog zW1 Tryz.f63=true:=by kernel_rfl
def zab:Cfg:=zD [] []
theorem zhc:zY Tryz.prog zab Tryz.f75=true:=by kernel_rfl
def zW2:Cfg:=zD [] [(12,nr 0 23)]
theorem zQY (t:Tmp):zW2.mu t=List.contains (α:=Nat) [] t:=(rfl)
theorem zhd:zY Tryz.prog zW2 Tryz.f81=true:=by kernel_rfl
def zSx:Cfg:=zD [] []
theorem zhe (t:Tmp):zSx.mu t=List.contains (α:=Nat) [] t:=(rfl)
theorem zgQ:zY Tryz.prog zSx Tryz.f87=true:=by kernel_rfl
def zQZ:Cfg:=zD [] []
theorem zgR (t:Tmp):zQZ.mu t=List.contains (α:=Nat) [] t:=(rfl)
theorem zd7:zY Tryz.prog zQZ Tryz.f93=true:=by kernel_rfl
def zac:Cfg:=zD [22] []
theorem zhf:zY Tryz.prog zac Tryz.f99=true:=by kernel_rfl
def zQa:Cfg:=zD [] []
theorem zad:zY Tryz.prog zQa Tryz.f107=true:=by kernel_rfl
def zUy:Cfg:=zD [] [(7,nr 0 12),(9,nr 0 17),(11,nr 0 21)]
theorem zd8:zY Tryz.prog zUy Tryz.f113=true:=by kernel_rfl
def zUz:Cfg:=zD [] []
theorem zd9:zY Tryz.prog zUz Tryz.f119=true:=by kernel_rfl
def zNE:Cfg:=zD [] []
theorem zeA (t:Tmp):zNE.mu t=List.contains (α:=Nat) [] t:=(rfl)
theorem zae:zY Tryz.prog zNE Tryz.f125=true:=by kernel_rfl
def zQb:Cfg:=zD [] [(10,nr 0 12)]
theorem zKM (t:Tmp):zQb.mu t=List.contains (α:=Nat) [] t:=(rfl)
theorem zeB:zY Tryz.prog zQb Tryz.f131=true:=by kernel_rfl
def zNF:Cfg:=zD [] []
theorem zQc (t:Tmp):zNF.mu t=List.contains (α:=Nat) [] t:=(rfl)
theorem zaf:zY Tryz.prog zNF Tryz.f137=true:=by kernel_rfl
def zQd:Cfg:=zD [] []
theorem zeC (t:Tmp):zQd.mu t=List.contains (α:=Nat) [] t:=(rfl)
theorem zeD:zY Tryz.prog zQd Tryz.f143=true:=by kernel_rfl
def zQe:Cfg:=zD [] []
theorem zag:zY Tryz.prog zQe Tryz.f161=true:=by kernel_rfl
def zU0:Cfg:=zD [] []
theorem zeE:zY Tryz.prog zU0 Tryz.f168=true:=by kernel_rfl
def zNG:Cfg:=zD [] []
theorem zQf (t:Tmp):zNG.mu t=List.contains (α:=Nat) [] t:=(rfl)
theorem zah:zY Tryz.prog zNG Tryz.f180=true:=by kernel_rfl
def zU1:Cfg:=zD [] []
theorem zeF:zY Tryz.prog zU1 Tryz.f199=true:=by kernel_rfl
def zQg:Cfg:=zD [44] []
theorem zGM (t:Tmp):zQg.mu t=List.contains (α:=Nat) [44] t:=(rfl)
theorem zeG:zY Tryz.prog zQg Tryz.f228=true:=by kernel_rfl
def zU2:Cfg:=zD [] []
theorem zeH:zY Tryz.prog zU2 Tryz.f241=true:=by kernel_rfl
def zQh:Cfg:=zD [] []
theorem zQi (t:Tmp):zQh.mu t=List.contains (α:=Nat) [] t:=(rfl)
theorem zeI:zY Tryz.prog zQh Tryz.f249=true:=by kernel_rfl
def zNH:Cfg:=zD [] []
theorem zKN (t:Tmp):zNH.mu t=List.contains (α:=Nat) [] t:=(rfl)
theorem zai:zY Tryz.prog zNH Tryz.f255=true:=by kernel_rfl
def zQj:Cfg:=zD [] [(6,nr 0 10),(11,nr 0 10)]
theorem zDk (t:Tmp):zQj.mu t=List.contains (α:=Nat) [] t:=(rfl)
theorem zeJ:zY Tryz.prog zQj Tryz.f261=true:=by kernel_rfl
def zQk:Cfg:=zD [] []
theorem zKO (t:Tmp):zQk.mu t=List.contains (α:=Nat) [] t:=(rfl)
theorem zeK:zY Tryz.prog zQk Tryz.f267=true:=by kernel_rfl
def zNI:Cfg:=zD [] []
theorem zaj (t:Tmp):zNI.mu t=List.contains (α:=Nat) [] t:=(rfl)
theorem zak:zY Tryz.prog zNI Tryz.f283=true:=by kernel_rfl
def zQl:Cfg:=zD [] []
theorem zeL (t:Tmp):zQl.mu t=List.contains (α:=Nat) [] t:=(rfl)
theorem zeM:zY Tryz.prog zQl Tryz.f289=true:=by kernel_rfl
def zQm:Cfg:=zD [] []
theorem zeN (t:Tmp):zQm.mu t=List.contains (α:=Nat) [] t:=(rfl)
theorem zeO:zY Tryz.prog zQm Tryz.f298=true:=by kernel_rfl
def zeP:Cfg:=zD [] []
theorem mu7 (t:Tmp):zeP.mu t=List.contains (α:=Nat) [] t:=(rfl)
theorem ok7:zY Tryz.prog zeP Tryz.f7=true:=by kernel_rfl
def zQn:Cfg:=zD [] []
theorem zeQ (t:Tmp):zQn.mu t=List.contains (α:=Nat) [] t:=(rfl)
theorem zeR:zY Tryz.prog zQn Tryz.f13=true:=by kernel_rfl
def zW3:Cfg:=zD [] []
theorem zgS:zY Tryz.prog zW3 Tryz.f19=true:=by kernel_rfl
def zal:Cfg:=zD [24] []
theorem zhg:zY Tryz.prog zal Tryz.f31=true:=by kernel_rfl
def zSy:Cfg:=zD [] []
theorem zhh (t:Tmp):zSy.mu t=List.contains (α:=Nat) [] t:=(rfl)
theorem zgT:zY Tryz.prog zSy Tryz.f37=true:=by kernel_rfl
def zSz:Cfg:=zD [] []
theorem zcW (t:Tmp):zSz.mu t=List.contains (α:=Nat) [] t:=(rfl)
theorem zgU:zY Tryz.prog zSz Tryz.f43=true:=by kernel_rfl
def zam:Cfg:=zD [14] []
theorem zhi:zY Tryz.prog zam Tryz.f49=true:=by kernel_rfl
def zW4:Cfg:=zD [] []
theorem zgV:zY Tryz.prog zW4 Tryz.f58=true:=by kernel_rfl
def zan:Cfg:=zD [] []
theorem zhj:zY Tryz.prog zan Tryz.f64=true:=by kernel_rfl
def zao:Cfg:=zD [] []
theorem zhk:zY Tryz.prog zao Tryz.f70=true:=by kernel_rfl
def zap:Cfg:=zD [16] [(6,nr 0 17),(11,[(0, .no),(1, .st)]++nr 2 12),(16,nr 0 20)]
theorem zhl:zY Tryz.prog zap Tryz.f76=true:=by kernel_rfl
def zW5:Cfg:=zD [] []
theorem zS0 (t:Tmp):zW5.mu t=List.contains (α:=Nat) [] t:=(rfl)
theorem zhm:zY Tryz.prog zW5 Tryz.f82=true:=by kernel_rfl
def zS1:Cfg:=zD [] []
theorem zhn (t:Tmp):zS1.mu t=List.contains (α:=Nat) [] t:=(rfl)
theorem zgW:zY Tryz.prog zS1 Tryz.f88=true:=by kernel_rfl
def zS2:Cfg:=zD [] []
theorem zOR (t:Tmp):zS2.mu t=List.contains (α:=Nat) [] t:=(rfl)
theorem zgX:zY Tryz.prog zS2 Tryz.f94=true:=by kernel_rfl
def zQo:Cfg:=zD [] []
theorem zaq:zY Tryz.prog zQo Tryz.f100=true:=by kernel_rfl
def zQp:Cfg:=zD [] []
theorem zar:zY Tryz.prog zQp Tryz.f108=true:=by kernel_rfl
def zU3:Cfg:=zD [] []
theorem zeS:zY Tryz.prog zU3 Tryz.f120=true:=by kernel_rfl
def zNJ:Cfg:=zD [7] []
theorem zeT (t:Tmp):zNJ.mu t=List.contains (α:=Nat) [7] t:=(rfl)
theorem zas:zY Tryz.prog zNJ Tryz.f126=true:=by kernel_rfl
def zU4:Cfg:=zD [] [(17,nr 0 15)]
theorem zeU:zY Tryz.prog zU4 Tryz.f132=true:=by kernel_rfl
def zNK:Cfg:=zD [] []
theorem zFC (t:Tmp):zNK.mu t=List.contains (α:=Nat) [] t:=(rfl)
theorem zat:zY Tryz.prog zNK Tryz.f138=true:=by kernel_rfl
def zNL:Cfg:=zD [] []
theorem zeV (t:Tmp):zNL.mu t=List.contains (α:=Nat) [] t:=(rfl)
theorem zau:zY Tryz.prog zNL Tryz.f144=true:=by kernel_rfl
def zQq:Cfg:=zD [] []
theorem zav:zY Tryz.prog zQq Tryz.f162=true:=by kernel_rfl
def zU5:Cfg:=zD [] []
theorem zeW:zY Tryz.prog zU5 Tryz.f169=true:=by kernel_rfl
def zU6:Cfg:=zD [] [(4,nr 0 17),(6,nr 0 18)]
theorem zeX:zY Tryz.prog zU6 Tryz.f175=true:=by kernel_rfl
def zU7:Cfg:=zD [] [(3,nr 0 12)]
theorem zeY:zY Tryz.prog zU7 Tryz.f181=true:=by kernel_rfl
def zU8:Cfg:=zD [] []
theorem zeZ:zY Tryz.prog zU8 Tryz.f194=true:=by kernel_rfl
def zQr:Cfg:=zD [] []
theorem zaw:zY Tryz.prog zQr Tryz.f209=true:=by kernel_rfl
def zNM:Cfg:=zD [] []
theorem zea (t:Tmp):zNM.mu t=List.contains (α:=Nat) [] t:=(rfl)
theorem zax:zY Tryz.prog zNM Tryz.f223=true:=by kernel_rfl
def zQs:Cfg:=zD [] []
theorem zay (t:Tmp):zQs.mu t=List.contains (α:=Nat) [] t:=(rfl)
theorem zeb:zY Tryz.prog zQs Tryz.f229=true:=by kernel_rfl
def zNN:Cfg:=zD [] []
theorem zaz (t:Tmp):zNN.mu t=List.contains (α:=Nat) [] t:=(rfl)
theorem za0:zY Tryz.prog zNN Tryz.f256=true:=by kernel_rfl
def zQt:Cfg:=zD [] []
theorem zec (t:Tmp):zQt.mu t=List.contains (α:=Nat) [] t:=(rfl)
theorem zed:zY Tryz.prog zQt Tryz.f290=true:=by kernel_rfl
def zQu:Cfg:=zD [] []
theorem zee (t:Tmp):zQu.mu t=List.contains (α:=Nat) [] t:=(rfl)
theorem zef:zY Tryz.prog zQu Tryz.f299=true:=by kernel_rfl
def zQv:Cfg:=zD [] []
theorem zQw (t:Tmp):zQv.mu t=List.contains (α:=Nat) [] t:=(rfl)
theorem zeg:zY Tryz.prog zQv Tryz.f323=true:=by kernel_rfl
def zcX:Cfg:=zD [] [(17,[(0, .no),(1, .no),(3, .no),(4, .st),(6, .no),(7, .st),(2, .no),(9, .no),(5, .no),(8, .no)]++nr 10 5)]
theorem mu8 (t:Tmp):zcX.mu t=List.contains (α:=Nat) [] t:=(rfl)
theorem ok8:zY Tryz.prog zcX Tryz.f8=true:=by kernel_rfl
def zS3:Cfg:=zD [] []
theorem zcY (t:Tmp):zS3.mu t=List.contains (α:=Nat) [] t:=(rfl)
theorem zgY:zY Tryz.prog zS3 Tryz.f14=true:=by kernel_rfl
def zW6:Cfg:=zD [] []
theorem zho (t:Tmp):zW6.mu t=List.contains (α:=Nat) [] t:=(rfl)
theorem zhp:zY Tryz.prog zW6 Tryz.f20=true:=by kernel_rfl
def zQx:Cfg:=zD [] []
theorem zS4 (t:Tmp):zQx.mu t=List.contains (α:=Nat) [] t:=(rfl)
theorem zeh:zY Tryz.prog zQx Tryz.f26=true:=by kernel_rfl
def zW7:Cfg:=zD [] [(7,nr 0 14),(14,[(1, .no),(0, .no)]++nr 2 8)]
theorem zJi (t:Tmp):zW7.mu t=List.contains (α:=Nat) [] t:=(rfl)
theorem zhq:zY Tryz.prog zW7 Tryz.f32=true:=by kernel_rfl
def zW8:Cfg:=zD [] [(6,nr 0 9)]
theorem zgZ:zY Tryz.prog zW8 Tryz.f38=true:=by kernel_rfl
def zS5:Cfg:=zD [] []
theorem za1 (t:Tmp):zS5.mu t=List.contains (α:=Nat) [] t:=(rfl)
theorem zga:zY Tryz.prog zS5 Tryz.f44=true:=by kernel_rfl
def za2:Cfg:=zD [] []
theorem zhr:zY Tryz.prog za2 Tryz.f50=true:=by kernel_rfl
def zW9:Cfg:=zD [] []
theorem zgb:zY Tryz.prog zW9 Tryz.f59=true:=by kernel_rfl
def za3:Cfg:=zD [] []
theorem zhs:zY Tryz.prog za3 Tryz.f65=true:=by kernel_rfl
def zS6:Cfg:=zD [] [(1,nr 0 4++ [(5, .no),(6, .st),(7, .no),(8, .st),(10, .no),(11, .st),(12, .no),(13, .st),(15, .no),(16, .st),(17, .no),(18, .st),(4, .no),(9, .no),(14, .no)]++nr 19 4)]
theorem zgc (t:Tmp):zS6.mu t=List.contains (α:=Nat) [] t:=(rfl)
theorem zgd:zY Tryz.prog zS6 Tryz.f71=true:=by kernel_rfl
def za4:Cfg:=zD [] []
theorem zht:zY Tryz.prog za4 Tryz.f77=true:=by kernel_rfl
def zS7:Cfg:=zD [] []
theorem zhu (t:Tmp):zS7.mu t=List.contains (α:=Nat) [] t:=(rfl)
theorem zge:zY Tryz.prog zS7 Tryz.f83=true:=by kernel_rfl
def zS8:Cfg:=zD [] [(6,nr 0 9)]
theorem zU9 (t:Tmp):zS8.mu t=List.contains (α:=Nat) [] t:=(rfl)
theorem zgf:zY Tryz.prog zS8 Tryz.f89=true:=by kernel_rfl
def zS9:Cfg:=zD [] [(14,nr 0 13)]
theorem zDI (t:Tmp):zS9.mu t=List.contains (α:=Nat) [] t:=(rfl)
theorem zgg:zY Tryz.prog zS9 Tryz.f95=true:=by kernel_rfl
def zVA:Cfg:=zD [] []
theorem zei:zY Tryz.prog zVA Tryz.f101=true:=by kernel_rfl
def zQy:Cfg:=zD [] []
theorem za5:zY Tryz.prog zQy Tryz.f109=true:=by kernel_rfl
def zVB:Cfg:=zD [] [(3,[(0, .no),(1, .no),(2, .st),(4, .no),(5, .no),(6, .st),(9, .no),(10, .no),(11, .st),(14, .no),(15, .no),(16, .st),(3, .st),(7, .st),(8, .st),(12, .st),(13, .st),(17, .st)]++nr 18 3),(6,nr 0 7),(7,[(6, .no)]++nr 0 6++nr 7 6)]
theorem zej:zY Tryz.prog zVB Tryz.f115=true:=by kernel_rfl
def zQz:Cfg:=zD [] []
theorem za6:zY Tryz.prog zQz Tryz.f121=true:=by kernel_rfl
def zVC:Cfg:=zD [] []
theorem zek:zY Tryz.prog zVC Tryz.f127=true:=by kernel_rfl
def zVD:Cfg:=zD [] []
theorem zel:zY Tryz.prog zVD Tryz.f133=true:=by kernel_rfl
def zNO:Cfg:=zD [] []
theorem zKP (t:Tmp):zNO.mu t=List.contains (α:=Nat) [] t:=(rfl)
theorem za7:zY Tryz.prog zNO Tryz.f139=true:=by kernel_rfl
def zQ0:Cfg:=zD [] [(4,nr 0 10)]
theorem zLr (t:Tmp):zQ0.mu t=List.contains (α:=Nat) [] t:=(rfl)
theorem zem:zY Tryz.prog zQ0 Tryz.f145=true:=by kernel_rfl
def zQ1:Cfg:=zD [] []
theorem za8:zY Tryz.prog zQ1 Tryz.f163=true:=by kernel_rfl
def zVE:Cfg:=zD [] []
theorem zen:zY Tryz.prog zVE Tryz.f170=true:=by kernel_rfl
def zVF:Cfg:=zD [] [(4,nr 0 5)]
theorem zeo:zY Tryz.prog zVF Tryz.f182=true:=by kernel_rfl
def zNP:Cfg:=zD [] [(20,nr 0 12)]
theorem zEV (t:Tmp):zNP.mu t=List.contains (α:=Nat) [] t:=(rfl)
theorem za9:zY Tryz.prog zNP Tryz.f195=true:=by kernel_rfl
def zQ2:Cfg:=zD [] []
theorem zbA:zY Tryz.prog zQ2 Tryz.f210=true:=by kernel_rfl
def zQ3:Cfg:=zD [] [(3,[(2, .no),(0, .no),(1, .st)]++nr 3 6)]
theorem zQ4 (t:Tmp):zQ3.mu t=List.contains (α:=Nat) [] t:=(rfl)
theorem zep:zY Tryz.prog zQ3 Tryz.f217=true:=by kernel_rfl
def zNQ:Cfg:=zD [] []
theorem zQ5 (t:Tmp):zNQ.mu t=List.contains (α:=Nat) [] t:=(rfl)
theorem zbB:zY Tryz.prog zNQ Tryz.f224=true:=by kernel_rfl
def zQ6:Cfg:=zD [24] []
theorem zFD (t:Tmp):zQ6.mu t=List.contains (α:=Nat) [24] t:=(rfl)
theorem zeq:zY Tryz.prog zQ6 Tryz.f230=true:=by kernel_rfl
def zNR:Cfg:=zD [] []
theorem zer (t:Tmp):zNR.mu t=List.contains (α:=Nat) [] t:=(rfl)
theorem zbC:zY Tryz.prog zNR Tryz.f251=true:=by kernel_rfl
def zQ7:Cfg:=zD [] []
theorem zes (t:Tmp):zQ7.mu t=List.contains (α:=Nat) [] t:=(rfl)
theorem zet:zY Tryz.prog zQ7 Tryz.f263=true:=by kernel_rfl
def zQ8:Cfg:=zD [] [(10,nr 0 14),(15,nr 0 20)]
theorem zGN (t:Tmp):zQ8.mu t=List.contains (α:=Nat) [] t:=(rfl)
theorem zeu:zY Tryz.prog zQ8 Tryz.f279=true:=by kernel_rfl
def zQ9:Cfg:=zD [] [(4,nr 0 6)]
theorem zLs (t:Tmp):zQ9.mu t=List.contains (α:=Nat) [] t:=(rfl)
theorem zev:zY Tryz.prog zQ9 Tryz.f324=true:=by kernel_rfl
set_option maxRecDepth 100000
def tab:List (Nat× (Func×Cfg)):=[(6,(Tryz.f6,zgI)),(8,(Tryz.f8,zcX)),(9,(Tryz.f9,zdH)),(10,(Tryz.f10,zQB)),(14,(Tryz.f14,zS3)),(19,(Tryz.f19,zW3)),(21,(Tryz.f21,zZu)),(22,(Tryz.f22,zaA)),(23,(Tryz.f23,zaL)),(24,(Tryz.f24,zaZ)),(26,(Tryz.f26,zQx)),(28,(Tryz.f28,zSk)),(29,(Tryz.f29,zaM)),(30,(Tryz.f30,zaa)),(31,(Tryz.f31,zal)),(35,(Tryz.f35,zSr)),(36,(Tryz.f36,zQX)),(37,(Tryz.f37,zSy)),(38,(Tryz.f38,zW8)),(39,(Tryz.f39,zSi)),(40,(Tryz.f40,zQC)),(42,(Tryz.f42,zSw)),(43,(Tryz.f43,zSz)),(44,(Tryz.f44,zS5)),(45,(Tryz.f45,zWh)),(46,(Tryz.f46,zaB)),(47,(Tryz.f47,zaO)),(48,(Tryz.f48,zWz)),(49,(Tryz.f49,zam)),(50,(Tryz.f50,za2)),(51,(Tryz.f51,zZv)),(55,(Tryz.f55,zWn)),(56,(Tryz.f56,zWu)),(57,(Tryz.f57,zW0)),(58,(Tryz.f58,zW4)),(59,(Tryz.f59,zW9)),(60,(Tryz.f60,zWi)),(62,(Tryz.f62,zWv)),(63,(Tryz.f63,zW1)),(64,(Tryz.f64,zan)),(65,(Tryz.f65,za3)),(67,(Tryz.f67,zSl)),(68,(Tryz.f68,zaP)),(70,(Tryz.f70,zao)),(71,(Tryz.f71,zS6)),(72,(Tryz.f72,zZw)),(74,(Tryz.f74,zaQ)),(75,(Tryz.f75,zab)),(76,(Tryz.f76,zap)),(77,(Tryz.f77,za4)),(83,(Tryz.f83,zS7)),(84,(Tryz.f84,zZx)),(85,(Tryz.f85,zaD)),(86,(Tryz.f86,zSs)),(87,(Tryz.f87,zSx)),(88,(Tryz.f88,zS1)),(89,(Tryz.f89,zS8)),(90,(Tryz.f90,zSj)),(91,(Tryz.f91,zSm)),(92,(Tryz.f92,zQL)),(93,(Tryz.f93,zQZ)),(94,(Tryz.f94,zS2)),(95,(Tryz.f95,zS9)),(97,(Tryz.f97,zSn)),(99,(Tryz.f99,zac)),(100,(Tryz.f100,zQo)),(101,(Tryz.f101,zVA)),(102,(Tryz.f102,zUc)),(103,(Tryz.f103,zUi)),(106,(Tryz.f106,zUs)),(107,(Tryz.f107,zQa)),(108,(Tryz.f108,zQp)),(109,(Tryz.f109,zQy)),(110,(Tryz.f110,zM0)),(111,(Tryz.f111,zUj)),(112,(Tryz.f112,zUt)),(113,(Tryz.f113,zUy)),(115,(Tryz.f115,zVB)),(117,(Tryz.f117,zUk)),(118,(Tryz.f118,zM8)),(119,(Tryz.f119,zUz)),(120,(Tryz.f120,zU3)),(121,(Tryz.f121,zQz)),(122,(Tryz.f122,zP0)),(123,(Tryz.f123,zUl)),(124,(Tryz.f124,zUu)),(125,(Tryz.f125,zNE)),(126,(Tryz.f126,zNJ)),(127,(Tryz.f127,zVC)),(128,(Tryz.f128,zUd)),(129,(Tryz.f129,zUm)),(132,(Tryz.f132,zU4)),(133,(Tryz.f133,zVD)),(134,(Tryz.f134,zM1)),(135,(Tryz.f135,zM4)),(136,(Tryz.f136,zNA)),(137,(Tryz.f137,zNF)),(138,(Tryz.f138,zNK)),(139,(Tryz.f139,zNO)),(140,(Tryz.f140,zM2)),(141,(Tryz.f141,zM5)),(144,(Tryz.f144,zNL)),(146,(Tryz.f146,zM3)),(147,(Tryz.f147,zQD)),(149,(Tryz.f149,zUv)),(161,(Tryz.f161,zQe)),(162,(Tryz.f162,zQq)),(163,(Tryz.f163,zQ1)),(164,(Tryz.f164,zP1)),(166,(Tryz.f166,zUn)),(167,(Tryz.f167,zUw)),(168,(Tryz.f168,zU0)),(169,(Tryz.f169,zU5)),(170,(Tryz.f170,zVE)),(171,(Tryz.f171,zUe)),(173,(Tryz.f173,zUx)),(175,(Tryz.f175,zU6)),(177,(Tryz.f177,zP2)),(178,(Tryz.f178,zUo)),(180,(Tryz.f180,zNG)),(181,(Tryz.f181,zU7)),(182,(Tryz.f182,zVF)),(184,(Tryz.f184,zUp)),(190,(Tryz.f190,zUq)),(194,(Tryz.f194,zU8)),(195,(Tryz.f195,zNP)),(196,(Tryz.f196,zKJ)),(197,(Tryz.f197,zHx)),(199,(Tryz.f199,zU1)),(209,(Tryz.f209,zQr)),(210,(Tryz.f210,zQ2)),(211,(Tryz.f211,zUf)),(223,(Tryz.f223,zNM)),(224,(Tryz.f224,zNQ)),(225,(Tryz.f225,zKK)),(226,(Tryz.f226,zM6)),(227,(Tryz.f227,zNB)),(240,(Tryz.f240,zQQ)),(241,(Tryz.f241,zU2)),(251,(Tryz.f251,zNR)),(252,(Tryz.f252,zKL)),(253,(Tryz.f253,zM7)),(254,(Tryz.f254,zNC)),(255,(Tryz.f255,zNH)),(256,(Tryz.f256,zNN)),(283,(Tryz.f283,zNI))]
theorem yj:zEQ Tryz.prog tab:=⟨⟨Tryz.func6,ok6⟩,⟨Tryz.func8,ok8⟩,⟨Tryz.func9,ok9⟩,⟨Tryz.func10,zf4⟩,⟨Tryz.func14,zgY⟩,⟨Tryz.func19,zgS⟩,⟨Tryz.func21,zg2⟩,⟨Tryz.func22,zhC⟩,⟨Tryz.func23,zhP⟩,⟨Tryz.func24,zha⟩,⟨Tryz.func26,zeh⟩,⟨Tryz.func28,zf5⟩,⟨Tryz.func29,zhQ⟩,⟨Tryz.func30,zhb⟩,⟨Tryz.func31,zhg⟩,⟨Tryz.func35,zgD⟩,⟨Tryz.func36,zd6⟩,⟨Tryz.func37,zgT⟩,⟨Tryz.func38,zgZ⟩,⟨Tryz.func39,zf0⟩,⟨Tryz.func40,zdV⟩,⟨Tryz.func42,zgM⟩,⟨Tryz.func43,zgU⟩,⟨Tryz.func44,zga⟩,⟨Tryz.func45,zf1⟩,⟨Tryz.func46,zhF⟩,⟨Tryz.func47,zhS⟩,⟨Tryz.func48,zgN⟩,⟨Tryz.func49,zhi⟩,⟨Tryz.func50,zhr⟩,⟨Tryz.func51,zg4⟩,⟨Tryz.func55,zf7⟩,⟨Tryz.func56,zgE⟩,⟨Tryz.func57,zgO⟩,⟨Tryz.func58,zgV⟩,⟨Tryz.func59,zgb⟩,⟨Tryz.func60,zf2⟩,⟨Tryz.func62,zgF⟩,⟨Tryz.func63,zgP⟩,⟨Tryz.func64,zhj⟩,⟨Tryz.func65,zhs⟩,⟨Tryz.func67,zf8⟩,⟨Tryz.func68,zhT⟩,⟨Tryz.func70,zhk⟩,⟨Tryz.func71,zgd⟩,⟨Tryz.func72,zg5⟩,⟨Tryz.func74,zhU⟩,⟨Tryz.func75,zhc⟩,⟨Tryz.func76,zhl⟩,⟨Tryz.func77,zht⟩,⟨Tryz.func83,zge⟩,⟨Tryz.func84,zg7⟩,⟨Tryz.func85,zhJ⟩,⟨Tryz.func86,zgG⟩,⟨Tryz.func87,zgQ⟩,⟨Tryz.func88,zgW⟩,⟨Tryz.func89,zgf⟩,⟨Tryz.func90,zf3⟩,⟨Tryz.func91,zgB⟩,⟨Tryz.func92,zgH⟩,⟨Tryz.func93,zd7⟩,⟨Tryz.func94,zgX⟩,⟨Tryz.func95,zgg⟩,⟨Tryz.func97,zgC⟩,⟨Tryz.func99,zhf⟩,⟨Tryz.func100,zaq⟩,⟨Tryz.func101,zei⟩,⟨Tryz.func102,zdI⟩,⟨Tryz.func103,zdX⟩,⟨Tryz.func106,zdo⟩,⟨Tryz.func107,zad⟩,⟨Tryz.func108,zar⟩,⟨Tryz.func109,za5⟩,⟨Tryz.func110,zZy⟩,⟨Tryz.func111,zdY⟩,⟨Tryz.func112,zdp⟩,⟨Tryz.func113,zd8⟩,⟨Tryz.func115,zej⟩,⟨Tryz.func117,zdZ⟩,⟨Tryz.func118,zaR⟩,⟨Tryz.func119,zd9⟩,⟨Tryz.func120,zeS⟩,⟨Tryz.func121,za6⟩,⟨Tryz.func122,zZz⟩,⟨Tryz.func123,zda⟩,⟨Tryz.func124,zdr⟩,⟨Tryz.func125,zae⟩,⟨Tryz.func126,zas⟩,⟨Tryz.func127,zek⟩,⟨Tryz.func128,zdK⟩,⟨Tryz.func129,zdb⟩,⟨Tryz.func132,zeU⟩,⟨Tryz.func133,zel⟩,⟨Tryz.func134,zZ0⟩,⟨Tryz.func135,zaE⟩,⟨Tryz.func136,zaT⟩,⟨Tryz.func137,zaf⟩,⟨Tryz.func138,zat⟩,⟨Tryz.func139,za7⟩,⟨Tryz.func140,zZ2⟩,⟨Tryz.func141,zaG⟩,⟨Tryz.func144,zau⟩,⟨Tryz.func146,zZ3⟩,⟨Tryz.func147,zaH⟩,⟨Tryz.func149,zdu⟩,⟨Tryz.func161,zag⟩,⟨Tryz.func162,zav⟩,⟨Tryz.func163,za8⟩,⟨Tryz.func164,zZ4⟩,⟨Tryz.func166,zdc⟩,⟨Tryz.func167,zdv⟩,⟨Tryz.func168,zeE⟩,⟨Tryz.func169,zeW⟩,⟨Tryz.func170,zen⟩,⟨Tryz.func171,zdL⟩,⟨Tryz.func173,zdw⟩,⟨Tryz.func175,zeX⟩,⟨Tryz.func177,zZ5⟩,⟨Tryz.func178,zdd⟩,⟨Tryz.func180,zah⟩,⟨Tryz.func181,zeY⟩,⟨Tryz.func182,zeo⟩,⟨Tryz.func184,zde⟩,⟨Tryz.func190,zdf⟩,⟨Tryz.func194,zeZ⟩,⟨Tryz.func195,za9⟩,⟨Tryz.func196,zZ6⟩,⟨Tryz.func197,zSo⟩,⟨Tryz.func199,zeF⟩,⟨Tryz.func209,zaw⟩,⟨Tryz.func210,zbA⟩,⟨Tryz.func211,zdN⟩,⟨Tryz.func223,zax⟩,⟨Tryz.func224,zbB⟩,⟨Tryz.func225,zZ7⟩,⟨Tryz.func226,zaI⟩,⟨Tryz.func227,zaV⟩,⟨Tryz.func240,zaW⟩,⟨Tryz.func241,zeH⟩,⟨Tryz.func251,zbC⟩,⟨Tryz.func252,zZ9⟩,⟨Tryz.func253,zaJ⟩,⟨Tryz.func254,zaX⟩,⟨Tryz.func255,zai⟩,⟨Tryz.func256,za0⟩,⟨Tryz.func283,zak⟩,trivial⟩
theorem mix:Tryz.prog.follows .mixedOrders=true:=by kernel_rfl
end Go.V
end
