/- How functions of this program are read by the machine, part 1. No condition. -/
import Derived.Test.YtmhkjfajejaniaaGreatDoorW04
import Derived.KernelRfl
import Derived.Test.YtmhkjfajejaniaaGreatDoorProg
set_option linter.all false
noncomputable section
namespace Go.V
open Go.Proofs
def zhY:Cfg:=zI [] []
theorem mu9 (t:Tmp):zhY.mu t=List.contains (α:=Nat) [] t:=(rfl)
theorem ok9:zf Tryz.prog zhY Tryz.f9=true:=by kernel_rfl
def zV8:Cfg:=zI [] []
theorem zk6 (t:Tmp):zV8.mu t=List.contains (α:=Nat) [] t:=(rfl)
theorem zj3:zf Tryz.prog zV8 Tryz.f27=true:=by kernel_rfl
def zdN:Cfg:=zI [17] [(7,nr 0 10)]
theorem zk7:zf Tryz.prog zdN Tryz.f33=true:=by kernel_rfl
def zV9:Cfg:=zI [] []
theorem zKx (t:Tmp):zV9.mu t=List.contains (α:=Nat) [] t:=(rfl)
theorem zj4:zf Tryz.prog zV9 Tryz.f39=true:=by kernel_rfl
def zWA:Cfg:=zI [] []
theorem zk8 (t:Tmp):zWA.mu t=List.contains (α:=Nat) [] t:=(rfl)
theorem zj5:zf Tryz.prog zWA Tryz.f45=true:=by kernel_rfl
def zWB:Cfg:=zI [] []
theorem zhZ (t:Tmp):zWB.mu t=List.contains (α:=Nat) [] t:=(rfl)
theorem zj6:zf Tryz.prog zWB Tryz.f57=true:=by kernel_rfl
def zZ3:Cfg:=zI [] [(1,nr 0 4++ [(5, .no),(6, .st),(7, .no),(8, .st),(4, .no)]++nr 9 4)]
theorem zj7 (t:Tmp):zZ3.mu t=List.contains (α:=Nat) [] t:=(rfl)
theorem zk9:zf Tryz.prog zZ3 Tryz.f63=true:=by kernel_rfl
def zWC:Cfg:=zI [7] []
theorem zlA (t:Tmp):zWC.mu t=List.contains (α:=Nat) [7] t:=(rfl)
theorem zj8:zf Tryz.prog zWC Tryz.f69=true:=by kernel_rfl
def zWD:Cfg:=zI [] []
theorem zlB (t:Tmp):zWD.mu t=List.contains (α:=Nat) [] t:=(rfl)
theorem zj9:zf Tryz.prog zWD Tryz.f75=true:=by kernel_rfl
def zdO:Cfg:=zI [] []
theorem zlC:zf Tryz.prog zdO Tryz.f93=true:=by kernel_rfl
def zZ4:Cfg:=zI [] [(9,nr 0 25)]
theorem zgY (t:Tmp):zZ4.mu t=List.contains (α:=Nat) [] t:=(rfl)
theorem zlD:zf Tryz.prog zZ4 Tryz.f99=true:=by kernel_rfl
def zPh:Cfg:=zI [] []
theorem zTA (t:Tmp):zPh.mu t=List.contains (α:=Nat) [] t:=(rfl)
theorem zdP:zf Tryz.prog zPh Tryz.f105=true:=by kernel_rfl
def zPi:Cfg:=zI [] [(6,nr 0 10),(11,nr 0 10)]
theorem zFE (t:Tmp):zPi.mu t=List.contains (α:=Nat) [] t:=(rfl)
theorem zdQ:zf Tryz.prog zPi Tryz.f111=true:=by kernel_rfl
def zTB:Cfg:=zI [] []
theorem zdR:zf Tryz.prog zTB Tryz.f117=true:=by kernel_rfl
def zTC:Cfg:=zI [] []
theorem zdS (t:Tmp):zTC.mu t=List.contains (α:=Nat) [] t:=(rfl)
theorem zha:zf Tryz.prog zTC Tryz.f123=true:=by kernel_rfl
def zYU:Cfg:=zI [] []
theorem zhb:zf Tryz.prog zYU Tryz.f130=true:=by kernel_rfl
def zYV:Cfg:=zI [] []
theorem zhc:zf Tryz.prog zYV Tryz.f137=true:=by kernel_rfl
def zTD:Cfg:=zI [] []
theorem zhd (t:Tmp):zTD.mu t=List.contains (α:=Nat) [] t:=(rfl)
theorem zhe:zf Tryz.prog zTD Tryz.f149=true:=by kernel_rfl
def zMU:Cfg:=zI [] []
theorem zRQ (t:Tmp):zMU.mu t=List.contains (α:=Nat) [] t:=(rfl)
theorem zdT:zf Tryz.prog zMU Tryz.f155=true:=by kernel_rfl
def zYW:Cfg:=zI [] [(17,nr 0 15)]
theorem zhf:zf Tryz.prog zYW Tryz.f161=true:=by kernel_rfl
def zTE:Cfg:=zI [] []
theorem zdU:zf Tryz.prog zTE Tryz.f167=true:=by kernel_rfl
def zTF:Cfg:=zI [] []
theorem zhg (t:Tmp):zTF.mu t=List.contains (α:=Nat) [] t:=(rfl)
theorem zhh:zf Tryz.prog zTF Tryz.f179=true:=by kernel_rfl
def zYX:Cfg:=zI [] []
theorem zhi:zf Tryz.prog zYX Tryz.f190=true:=by kernel_rfl
def zTG:Cfg:=zI [] [(3,[(2, .no),(0, .no),(1, .st)]++nr 3 6)]
theorem zTH (t:Tmp):zTG.mu t=List.contains (α:=Nat) [] t:=(rfl)
theorem zhj:zf Tryz.prog zTG Tryz.f199=true:=by kernel_rfl
def zTI:Cfg:=zI [] [(1,[(2, .no),(0, .no),(1, .no)]++nr 3 10)]
theorem zdV (t:Tmp):zTI.mu t=List.contains (α:=Nat) [] t:=(rfl)
theorem zhk:zf Tryz.prog zTI Tryz.f205=true:=by kernel_rfl
def zTJ:Cfg:=zI [] []
theorem zdW:zf Tryz.prog zTJ Tryz.f230=true:=by kernel_rfl
def zTK:Cfg:=zI [] []
theorem zhl (t:Tmp):zTK.mu t=List.contains (α:=Nat) [] t:=(rfl)
theorem zhm:zf Tryz.prog zTK Tryz.f236=true:=by kernel_rfl
def zPj:Cfg:=zI [] []
theorem zhn (t:Tmp):zPj.mu t=List.contains (α:=Nat) [] t:=(rfl)
theorem zdX:zf Tryz.prog zPj Tryz.f263=true:=by kernel_rfl
def zTL:Cfg:=zI [] [(4,nr 0 6)]
theorem zOO (t:Tmp):zTL.mu t=List.contains (α:=Nat) [] t:=(rfl)
theorem zho:zf Tryz.prog zTL Tryz.f300=true:=by kernel_rfl
def zTM:Cfg:=zI [] []
theorem zTN (t:Tmp):zTM.mu t=List.contains (α:=Nat) [] t:=(rfl)
theorem zhp:zf Tryz.prog zTM Tryz.f336=true:=by kernel_rfl
def zZ5:Cfg:=zI [] []
theorem zhq (t:Tmp):zZ5.mu t=List.contains (α:=Nat) [] t:=(rfl)
theorem zlE:zf Tryz.prog zZ5 Tryz.f10=true:=by kernel_rfl
def zdY:Cfg:=zI [7] []
theorem zlF:zf Tryz.prog zdY Tryz.f22=true:=by kernel_rfl
def zZ6:Cfg:=zI [] [(7,nr 0 14),(14,[(1, .no),(0, .no)]++nr 2 8)]
theorem zLp (t:Tmp):zZ6.mu t=List.contains (α:=Nat) [] t:=(rfl)
theorem zlG:zf Tryz.prog zZ6 Tryz.f34=true:=by kernel_rfl
def zWE:Cfg:=zI [] [(10,nr 0 11),(16,nr 0 8)]
theorem zTO (t:Tmp):zWE.mu t=List.contains (α:=Nat) [] t:=(rfl)
theorem zkA:zf Tryz.prog zWE Tryz.f40=true:=by kernel_rfl
def zWF:Cfg:=zI [] []
theorem zdZ (t:Tmp):zWF.mu t=List.contains (α:=Nat) [] t:=(rfl)
theorem zkB:zf Tryz.prog zWF Tryz.f46=true:=by kernel_rfl
def zda:Cfg:=zI [] []
theorem zlH:zf Tryz.prog zda Tryz.f58=true:=by kernel_rfl
def zWG:Cfg:=zI [] []
theorem zKy (t:Tmp):zWG.mu t=List.contains (α:=Nat) [] t:=(rfl)
theorem zkC:zf Tryz.prog zWG Tryz.f64=true:=by kernel_rfl
def zWH:Cfg:=zI [] []
theorem zlI (t:Tmp):zWH.mu t=List.contains (α:=Nat) [] t:=(rfl)
theorem zkD:zf Tryz.prog zWH Tryz.f70=true:=by kernel_rfl
def zWI:Cfg:=zI [] [(1,nr 0 4++ [(5, .no),(6, .st),(7, .no),(8, .st),(4, .no)]++nr 9 4)]
theorem zkE (t:Tmp):zWI.mu t=List.contains (α:=Nat) [] t:=(rfl)
theorem zkF:zf Tryz.prog zWI Tryz.f76=true:=by kernel_rfl
def zWJ:Cfg:=zI [] []
theorem zRR (t:Tmp):zWJ.mu t=List.contains (α:=Nat) [] t:=(rfl)
theorem zkG:zf Tryz.prog zWJ Tryz.f82=true:=by kernel_rfl
def zdb:Cfg:=zI [] [(3,[(0, .no),(1, .no),(2, .st),(4, .no),(5, .no),(6, .st),(9, .no),(10, .no),(11, .st),(14, .no),(15, .no),(16, .st),(3, .st),(7, .st),(8, .st),(12, .st),(13, .st),(17, .st)]++nr 18 3),(6,nr 0 7),(7,[(6, .no)]++nr 0 6++nr 7 6)]
theorem zlJ:zf Tryz.prog zdb Tryz.f88=true:=by kernel_rfl
def zZ7:Cfg:=zI [] []
theorem zkH:zf Tryz.prog zZ7 Tryz.f94=true:=by kernel_rfl
def zPk:Cfg:=zI [] [(16,nr 0 8++ [(13, .no)]++nr 8 5++nr 14 4)]
theorem zMV (t:Tmp):zPk.mu t=List.contains (α:=Nat) [] t:=(rfl)
theorem zdc:zf Tryz.prog zPk Tryz.f100=true:=by kernel_rfl
def zPl:Cfg:=zI [] []
theorem zGu (t:Tmp):zPl.mu t=List.contains (α:=Nat) [] t:=(rfl)
theorem zdd:zf Tryz.prog zPl Tryz.f106=true:=by kernel_rfl
def zPm:Cfg:=zI [] []
theorem zhr (t:Tmp):zPm.mu t=List.contains (α:=Nat) [] t:=(rfl)
theorem zde:zf Tryz.prog zPm Tryz.f112=true:=by kernel_rfl
def zPn:Cfg:=zI [] []
theorem zWK (t:Tmp):zPn.mu t=List.contains (α:=Nat) [] t:=(rfl)
theorem zdf:zf Tryz.prog zPn Tryz.f118=true:=by kernel_rfl
def zTP:Cfg:=zI [24] []
theorem zGv (t:Tmp):zTP.mu t=List.contains (α:=Nat) [24] t:=(rfl)
theorem zhs:zf Tryz.prog zTP Tryz.f124=true:=by kernel_rfl
def zTQ:Cfg:=zI [] []
theorem zdg:zf Tryz.prog zTQ Tryz.f132=true:=by kernel_rfl
def zYY:Cfg:=zI [] [(4,nr 0 17),(6,nr 0 18)]
theorem zht:zf Tryz.prog zYY Tryz.f138=true:=by kernel_rfl
def zTR:Cfg:=zI [] []
theorem zdh:zf Tryz.prog zTR Tryz.f144=true:=by kernel_rfl
def zTS:Cfg:=zI [] []
theorem zhu (t:Tmp):zTS.mu t=List.contains (α:=Nat) [] t:=(rfl)
theorem zhv:zf Tryz.prog zTS Tryz.f150=true:=by kernel_rfl
def zMW:Cfg:=zI [] [(3,[(0, .st),(4, .st),(1, .no),(2, .no),(3, .st),(5, .no),(6, .no),(7, .st),(8, .no),(9, .st),(10, .no),(11, .no),(12, .st),(13, .st)]++nr 14 6)]
theorem zKz (t:Tmp):zMW.mu t=List.contains (α:=Nat) [] t:=(rfl)
theorem zdi:zf Tryz.prog zMW Tryz.f156=true:=by kernel_rfl
def zYZ:Cfg:=zI [] []
theorem zhw:zf Tryz.prog zYZ Tryz.f162=true:=by kernel_rfl
def zMX:Cfg:=zI [] []
theorem zTT (t:Tmp):zMX.mu t=List.contains (α:=Nat) [] t:=(rfl)
theorem zdj:zf Tryz.prog zMX Tryz.f168=true:=by kernel_rfl
def zTU:Cfg:=zI [] []
theorem zhx (t:Tmp):zTU.mu t=List.contains (α:=Nat) [] t:=(rfl)
theorem zhy:zf Tryz.prog zTU Tryz.f174=true:=by kernel_rfl
def zTV:Cfg:=zI [] []
theorem zhz (t:Tmp):zTV.mu t=List.contains (α:=Nat) [] t:=(rfl)
theorem zh0:zf Tryz.prog zTV Tryz.f180=true:=by kernel_rfl
def zPo:Cfg:=zI [] []
theorem zh1 (t:Tmp):zPo.mu t=List.contains (α:=Nat) [] t:=(rfl)
theorem zdk:zf Tryz.prog zPo Tryz.f200=true:=by kernel_rfl
def zPp:Cfg:=zI [] [(7,nr 0 9)]
theorem zI8 (t:Tmp):zPp.mu t=List.contains (α:=Nat) [] t:=(rfl)
theorem zdl:zf Tryz.prog zPp Tryz.f206=true:=by kernel_rfl
def zPq:Cfg:=zI [] []
theorem zdm (t:Tmp):zPq.mu t=List.contains (α:=Nat) [] t:=(rfl)
theorem zdn:zf Tryz.prog zPq Tryz.f231=true:=by kernel_rfl
def zTW:Cfg:=zI [] []
theorem zh2 (t:Tmp):zTW.mu t=List.contains (α:=Nat) [] t:=(rfl)
theorem zh3:zf Tryz.prog zTW Tryz.f237=true:=by kernel_rfl
def zPr:Cfg:=zI [] [(1,[(2, .no),(6, .no),(0, .no),(1, .no)]++nr 3 3++nr 7 5)]
theorem zdo (t:Tmp):zPr.mu t=List.contains (α:=Nat) [] t:=(rfl)
theorem zdp:zf Tryz.prog zPr Tryz.f264=true:=by kernel_rfl
def zTX:Cfg:=zI [] [(10,nr 0 14),(15,nr 0 20)]
theorem zH2 (t:Tmp):zTX.mu t=List.contains (α:=Nat) [] t:=(rfl)
theorem zh4:zf Tryz.prog zTX Tryz.f313=true:=by kernel_rfl
def zTY:Cfg:=zI [] []
theorem zOP (t:Tmp):zTY.mu t=List.contains (α:=Nat) [] t:=(rfl)
theorem zh5:zf Tryz.prog zTY Tryz.f337=true:=by kernel_rfl
def zh6:Cfg:=zI [] [(8,[(0, .st)]++nr 1 5++ [(6, .st)]++nr 7 6)]
theorem mu5 (t:Tmp):zh6.mu t=List.contains (α:=Nat) [] t:=(rfl)
theorem ok5:zf Tryz.prog zh6 Tryz.f5=true:=by kernel_rfl
def zWL:Cfg:=zI [] []
theorem zcD (t:Tmp):zWL.mu t=List.contains (α:=Nat) [] t:=(rfl)
theorem zkI:zf Tryz.prog zWL Tryz.f11=true:=by kernel_rfl
def zWM:Cfg:=zI [] []
theorem zdq (t:Tmp):zWM.mu t=List.contains (α:=Nat) [] t:=(rfl)
theorem zkJ:zf Tryz.prog zWM Tryz.f17=true:=by kernel_rfl
def zZ8:Cfg:=zI [] []
theorem zkK:zf Tryz.prog zZ8 Tryz.f29=true:=by kernel_rfl
def zZ9:Cfg:=zI [] []
theorem zgZ (t:Tmp):zZ9.mu t=List.contains (α:=Nat) [] t:=(rfl)
theorem zlK:zf Tryz.prog zZ9 Tryz.f35=true:=by kernel_rfl
def zTZ:Cfg:=zI [] []
theorem zga (t:Tmp):zTZ.mu t=List.contains (α:=Nat) [] t:=(rfl)
theorem zkL:zf Tryz.prog zTZ Tryz.f41=true:=by kernel_rfl
def zWN:Cfg:=zI [] []
theorem zaA (t:Tmp):zWN.mu t=List.contains (α:=Nat) [] t:=(rfl)
theorem zkM:zf Tryz.prog zWN Tryz.f47=true:=by kernel_rfl
def zaB:Cfg:=zI [] []
theorem zkN:zf Tryz.prog zaB Tryz.f53=true:=by kernel_rfl
def zaC:Cfg:=zI [] [(7,nr 0 26),(11,nr 0 26),(15,nr 0 18),(23,nr 0 18)]
theorem zH3 (t:Tmp):zaC.mu t=List.contains (α:=Nat) [] t:=(rfl)
theorem zlL:zf Tryz.prog zaC Tryz.f65=true:=by kernel_rfl
def zWO:Cfg:=zI [] []
theorem zlM (t:Tmp):zWO.mu t=List.contains (α:=Nat) [] t:=(rfl)
theorem zkO:zf Tryz.prog zWO Tryz.f71=true:=by kernel_rfl
def zWP:Cfg:=zI [] [(20,nr 0 12)]
theorem zRS (t:Tmp):zWP.mu t=List.contains (α:=Nat) [] t:=(rfl)
theorem zkP:zf Tryz.prog zWP Tryz.f77=true:=by kernel_rfl
def zWQ:Cfg:=zI [31] []
theorem zlN (t:Tmp):zWQ.mu t=List.contains (α:=Nat) [31] t:=(rfl)
theorem zkQ:zf Tryz.prog zWQ Tryz.f83=true:=by kernel_rfl
def zaD:Cfg:=zI [] []
theorem zkR:zf Tryz.prog zaD Tryz.f95=true:=by kernel_rfl
def zTa:Cfg:=zI [] [(9,nr 0 9++ [(14, .no)]++nr 9 5++nr 15 4)]
theorem zMY (t:Tmp):zTa.mu t=List.contains (α:=Nat) [] t:=(rfl)
theorem zh7:zf Tryz.prog zTa Tryz.f101=true:=by kernel_rfl
def zPs:Cfg:=zI [] []
theorem zdr (t:Tmp):zPs.mu t=List.contains (α:=Nat) [] t:=(rfl)
theorem zds:zf Tryz.prog zPs Tryz.f107=true:=by kernel_rfl
def zMZ:Cfg:=zI [] [(6,nr 0 11),(11,nr 0 12)]
theorem zET (t:Tmp):zMZ.mu t=List.contains (α:=Nat) [] t:=(rfl)
theorem zaE:zf Tryz.prog zMZ Tryz.f113=true:=by kernel_rfl
def zMa:Cfg:=zI [] []
theorem zK0 (t:Tmp):zMa.mu t=List.contains (α:=Nat) [] t:=(rfl)
theorem zdt:zf Tryz.prog zMa Tryz.f119=true:=by kernel_rfl
def zTb:Cfg:=zI [] []
theorem zdu (t:Tmp):zTb.mu t=List.contains (α:=Nat) [] t:=(rfl)
theorem zh8:zf Tryz.prog zTb Tryz.f125=true:=by kernel_rfl
def zYa:Cfg:=zI [] [(4,nr 0 5)]
theorem zh9:zf Tryz.prog zYa Tryz.f133=true:=by kernel_rfl
def zYb:Cfg:=zI [] [(4,nr 0 17),(6,nr 0 18)]
theorem ziA:zf Tryz.prog zYb Tryz.f145=true:=by kernel_rfl
def zPt:Cfg:=zI [] []
theorem ziB (t:Tmp):zPt.mu t=List.contains (α:=Nat) [] t:=(rfl)
theorem zdv:zf Tryz.prog zPt Tryz.f151=true:=by kernel_rfl
def zJp:Cfg:=zI [] [(6,nr 0 19)]
theorem zH4 (t:Tmp):zJp.mu t=List.contains (α:=Nat) [] t:=(rfl)
theorem zdw:zf Tryz.prog zJp Tryz.f157=true:=by kernel_rfl
def zPu:Cfg:=zI [] [(17,nr 0 17)]
theorem zaF (t:Tmp):zPu.mu t=List.contains (α:=Nat) [] t:=(rfl)
theorem zdx:zf Tryz.prog zPu Tryz.f163=true:=by kernel_rfl
def zPv:Cfg:=zI [] []
theorem zWR (t:Tmp):zPv.mu t=List.contains (α:=Nat) [] t:=(rfl)
theorem zdy:zf Tryz.prog zPv Tryz.f169=true:=by kernel_rfl
def zTc:Cfg:=zI [] []
theorem ziC (t:Tmp):zTc.mu t=List.contains (α:=Nat) [] t:=(rfl)
theorem ziD:zf Tryz.prog zTc Tryz.f175=true:=by kernel_rfl
def zTd:Cfg:=zI [] []
theorem zdz (t:Tmp):zTd.mu t=List.contains (α:=Nat) [] t:=(rfl)
theorem ziE:zf Tryz.prog zTd Tryz.f181=true:=by kernel_rfl
def zPw:Cfg:=zI [] [(1,nr 0 9),(4,[(4, .no)]++nr 0 4++nr 5 18++ [(25, .no),(23, .no),(24, .no)])]
theorem zGw (t:Tmp):zPw.mu t=List.contains (α:=Nat) [] t:=(rfl)
theorem zd0:zf Tryz.prog zPw Tryz.f201=true:=by kernel_rfl
def zPx:Cfg:=zI [] []
theorem ziF (t:Tmp):zPx.mu t=List.contains (α:=Nat) [] t:=(rfl)
theorem zd1:zf Tryz.prog zPx Tryz.f207=true:=by kernel_rfl
def zYc:Cfg:=zI [] []
theorem ziG:zf Tryz.prog zYc Tryz.f220=true:=by kernel_rfl
def zTe:Cfg:=zI [] []
theorem ziH (t:Tmp):zTe.mu t=List.contains (α:=Nat) [] t:=(rfl)
theorem ziI:zf Tryz.prog zTe Tryz.f238=true:=by kernel_rfl
def zPy:Cfg:=zI [] []
theorem zK1 (t:Tmp):zPy.mu t=List.contains (α:=Nat) [] t:=(rfl)
theorem zd2:zf Tryz.prog zPy Tryz.f265=true:=by kernel_rfl
def zTf:Cfg:=zI [] [(11,nr 0 20),(16,nr 0 12)]
theorem zH5 (t:Tmp):zTf.mu t=List.contains (α:=Nat) [] t:=(rfl)
theorem ziJ:zf Tryz.prog zTf Tryz.f314=true:=by kernel_rfl
def zTg:Cfg:=zI [] []
theorem zd3:zf Tryz.prog zTg Tryz.f320=true:=by kernel_rfl
def zTh:Cfg:=zI [] []
theorem zWS (t:Tmp):zTh.mu t=List.contains (α:=Nat) [] t:=(rfl)
theorem ziK:zf Tryz.prog zTh Tryz.f338=true:=by kernel_rfl
def zWT:Cfg:=zI [] []
theorem zd4 (t:Tmp):zWT.mu t=List.contains (α:=Nat) [] t:=(rfl)
theorem zkS:zf Tryz.prog zWT Tryz.f12=true:=by kernel_rfl
def zWU:Cfg:=zI [] []
theorem zlO (t:Tmp):zWU.mu t=List.contains (α:=Nat) [] t:=(rfl)
theorem zkT:zf Tryz.prog zWU Tryz.f18=true:=by kernel_rfl
def zWV:Cfg:=zI [] []
theorem zTi (t:Tmp):zWV.mu t=List.contains (α:=Nat) [] t:=(rfl)
theorem zkU:zf Tryz.prog zWV Tryz.f24=true:=by kernel_rfl
def zWW:Cfg:=zI [] []
theorem zgb (t:Tmp):zWW.mu t=List.contains (α:=Nat) [] t:=(rfl)
theorem zkV:zf Tryz.prog zWW Tryz.f36=true:=by kernel_rfl
def zd5:Cfg:=zI [] []
theorem zlP:zf Tryz.prog zd5 Tryz.f42=true:=by kernel_rfl
def zWX:Cfg:=zI [] []
theorem ziL (t:Tmp):zWX.mu t=List.contains (α:=Nat) [] t:=(rfl)
theorem zkW:zf Tryz.prog zWX Tryz.f48=true:=by kernel_rfl
def zd6:Cfg:=zI [] []
theorem zlQ:zf Tryz.prog zd6 Tryz.f54=true:=by kernel_rfl
def zd7:Cfg:=zI [] []
theorem zlR:zf Tryz.prog zd7 Tryz.f60=true:=by kernel_rfl
def zaG:Cfg:=zI [] []
theorem zkX (t:Tmp):zaG.mu t=List.contains (α:=Nat) [] t:=(rfl)
theorem zlS:zf Tryz.prog zaG Tryz.f66=true:=by kernel_rfl
def zWY:Cfg:=zI [] [(6,nr 0 9)]
theorem zYd (t:Tmp):zWY.mu t=List.contains (α:=Nat) [] t:=(rfl)
theorem zkY:zf Tryz.prog zWY Tryz.f72=true:=by kernel_rfl
def zTj:Cfg:=zI [] []
theorem zVf (t:Tmp):zTj.mu t=List.contains (α:=Nat) [] t:=(rfl)
theorem zkZ:zf Tryz.prog zTj Tryz.f78=true:=by kernel_rfl
def zd8:Cfg:=zI [] []
theorem zlT:zf Tryz.prog zd8 Tryz.f84=true:=by kernel_rfl
def zd9:Cfg:=zI [] []
theorem zlU:zf Tryz.prog zd9 Tryz.f90=true:=by kernel_rfl
def zeA:Cfg:=zI [] []
theorem zlV:zf Tryz.prog zeA Tryz.f96=true:=by kernel_rfl
def zPz:Cfg:=zI [] []
theorem zOQ (t:Tmp):zPz.mu t=List.contains (α:=Nat) [] t:=(rfl)
theorem zeB:zf Tryz.prog zPz Tryz.f102=true:=by kernel_rfl
def zP0:Cfg:=zI [16] [(2,[(0, .st),(1, .no),(2, .st)]++nr 3 6)]
theorem zWZ (t:Tmp):zP0.mu t=List.contains (α:=Nat) [16] t:=(rfl)
theorem zeC:zf Tryz.prog zP0 Tryz.f108=true:=by kernel_rfl
def zP1:Cfg:=zI [] []
theorem zOR (t:Tmp):zP1.mu t=List.contains (α:=Nat) [] t:=(rfl)
theorem zeD:zf Tryz.prog zP1 Tryz.f114=true:=by kernel_rfl
def zP2:Cfg:=zI [] []
theorem ziM (t:Tmp):zP2.mu t=List.contains (α:=Nat) [] t:=(rfl)
theorem zeE:zf Tryz.prog zP2 Tryz.f120=true:=by kernel_rfl
def zTk:Cfg:=zI [] []
theorem zWa (t:Tmp):zTk.mu t=List.contains (α:=Nat) [] t:=(rfl)
theorem ziN:zf Tryz.prog zTk Tryz.f126=true:=by kernel_rfl
def zYe:Cfg:=zI [] []
theorem ziO:zf Tryz.prog zYe Tryz.f134=true:=by kernel_rfl
def zYf:Cfg:=zI [] [(4,nr 0 17),(6,nr 0 18)]
theorem ziP:zf Tryz.prog zYf Tryz.f140=true:=by kernel_rfl
def zTl:Cfg:=zI [] [(4,nr 0 10)]
theorem zOS (t:Tmp):zTl.mu t=List.contains (α:=Nat) [] t:=(rfl)
theorem ziQ:zf Tryz.prog zTl Tryz.f152=true:=by kernel_rfl
def zJq:Cfg:=zI [] [(3,nr 0 10),(6,[(0, .no),(9, .no)]++nr 1 8++nr 10 10),(7,nr 0 34),(8,[(0, .no),(1, .no),(8, .no)]++nr 2 6++nr 9 7)]
theorem zFF (t:Tmp):zJq.mu t=List.contains (α:=Nat) [] t:=(rfl)
theorem zeF:zf Tryz.prog zJq Tryz.f158=true:=by kernel_rfl
def zP3:Cfg:=zI [] []
theorem ziR (t:Tmp):zP3.mu t=List.contains (α:=Nat) [] t:=(rfl)
theorem zeG:zf Tryz.prog zP3 Tryz.f164=true:=by kernel_rfl
def zP4:Cfg:=zI [] []
theorem ziS (t:Tmp):zP4.mu t=List.contains (α:=Nat) [] t:=(rfl)
theorem zeH:zf Tryz.prog zP4 Tryz.f170=true:=by kernel_rfl
def zTm:Cfg:=zI [] [(1,nr 0 4++ [(5, .no),(6, .st),(7, .no),(8, .st),(4, .no)]++nr 9 4)]
theorem zeI (t:Tmp):zTm.mu t=List.contains (α:=Nat) [] t:=(rfl)
theorem ziT:zf Tryz.prog zTm Tryz.f176=true:=by kernel_rfl
def zP5:Cfg:=zI [2] []
theorem zTn (t:Tmp):zP5.mu t=List.contains (α:=Nat) [2] t:=(rfl)
theorem ziU:zf Tryz.prog zP5 Tryz.f182=true:=by kernel_rfl
def zTo:Cfg:=zI [] []
theorem ziV (t:Tmp):zTo.mu t=List.contains (α:=Nat) [] t:=(rfl)
theorem ziW:zf Tryz.prog zTo Tryz.f202=true:=by kernel_rfl
def zP6:Cfg:=zI [] [(1,[(2, .no),(6, .no),(0, .no),(1, .no)]++nr 3 3++nr 7 5)]
theorem zeJ (t:Tmp):zP6.mu t=List.contains (α:=Nat) [] t:=(rfl)
theorem zeK:zf Tryz.prog zP6 Tryz.f208=true:=by kernel_rfl
def zP7:Cfg:=zI [] [(4,nr 0 17),(6,nr 0 18)]
theorem zaH (t:Tmp):zP7.mu t=List.contains (α:=Nat) [] t:=(rfl)
theorem zeL:zf Tryz.prog zP7 Tryz.f221=true:=by kernel_rfl
def zTp:Cfg:=zI [] []
theorem zB1 (t:Tmp):zTp.mu t=List.contains (α:=Nat) [] t:=(rfl)
theorem ziX:zf Tryz.prog zTp Tryz.f260=true:=by kernel_rfl
def zP8:Cfg:=zI [] []
theorem zeM (t:Tmp):zP8.mu t=List.contains (α:=Nat) [] t:=(rfl)
theorem zeN:zf Tryz.prog zP8 Tryz.f266=true:=by kernel_rfl
def zTq:Cfg:=zI [] [(11,nr 0 8),(16,nr 0 12),(18,nr 0 3++ [(9, .no)]++nr 3 6++nr 10 3)]
theorem zGx (t:Tmp):zTq.mu t=List.contains (α:=Nat) [] t:=(rfl)
theorem ziY:zf Tryz.prog zTq Tryz.f315=true:=by kernel_rfl
def zTr:Cfg:=zI [] []
theorem ziZ (t:Tmp):zTr.mu t=List.contains (α:=Nat) [] t:=(rfl)
theorem zia:zf Tryz.prog zTr Tryz.f339=true:=by kernel_rfl
def zeO:Cfg:=zI [] []
theorem zlW:zf Tryz.prog zeO Tryz.f13=true:=by kernel_rfl
def zaI:Cfg:=zI [] [(13,nr 0 12),(17,nr 0 11),(19,[(1, .no),(0, .no),(2, .no),(3, .no)])]
theorem zK2 (t:Tmp):zaI.mu t=List.contains (α:=Nat) [] t:=(rfl)
theorem zlX:zf Tryz.prog zaI Tryz.f25=true:=by kernel_rfl
def zWb:Cfg:=zI [] []
theorem zaJ (t:Tmp):zWb.mu t=List.contains (α:=Nat) [] t:=(rfl)
theorem zka:zf Tryz.prog zWb Tryz.f37=true:=by kernel_rfl
def zaK:Cfg:=zI [] []
theorem zkb:zf Tryz.prog zaK Tryz.f49=true:=by kernel_rfl
def zeP:Cfg:=zI [] []
theorem zlY:zf Tryz.prog zeP Tryz.f55=true:=by kernel_rfl
def zaL:Cfg:=zI [] [(1,nr 0 4++ [(5, .no),(6, .st),(7, .no),(8, .st),(10, .no),(11, .st),(12, .no),(13, .st),(15, .no),(16, .st),(17, .no),(18, .st),(4, .no),(9, .no),(14, .no)]++nr 19 4)]
theorem zkc (t:Tmp):zaL.mu t=List.contains (α:=Nat) [] t:=(rfl)
theorem zlZ:zf Tryz.prog zaL Tryz.f61=true:=by kernel_rfl
def zaM:Cfg:=zI [] []
theorem zla (t:Tmp):zaM.mu t=List.contains (α:=Nat) [] t:=(rfl)
theorem zlb:zf Tryz.prog zaM Tryz.f67=true:=by kernel_rfl
def zWc:Cfg:=zI [] []
theorem zlc (t:Tmp):zWc.mu t=List.contains (α:=Nat) [] t:=(rfl)
theorem zkd:zf Tryz.prog zWc Tryz.f73=true:=by kernel_rfl
def zRT:Cfg:=zI [] []
theorem zH6 (t:Tmp):zRT.mu t=List.contains (α:=Nat) [] t:=(rfl)
theorem zgc:zf Tryz.prog zRT Tryz.f79=true:=by kernel_rfl
def zeQ:Cfg:=zI [] []
theorem zld:zf Tryz.prog zeQ Tryz.f85=true:=by kernel_rfl
def zWd:Cfg:=zI [] []
theorem zle (t:Tmp):zWd.mu t=List.contains (α:=Nat) [] t:=(rfl)
theorem zke:zf Tryz.prog zWd Tryz.f91=true:=by kernel_rfl
def zWe:Cfg:=zI [] [(14,nr 0 13)]
theorem zEl (t:Tmp):zWe.mu t=List.contains (α:=Nat) [] t:=(rfl)
theorem zkf:zf Tryz.prog zWe Tryz.f97=true:=by kernel_rfl
def zTs:Cfg:=zI [] [(10,nr 0 12)]
theorem zMb (t:Tmp):zTs.mu t=List.contains (α:=Nat) [] t:=(rfl)
theorem zib:zf Tryz.prog zTs Tryz.f103=true:=by kernel_rfl
def zP9:Cfg:=zI [7] []
theorem zic (t:Tmp):zP9.mu t=List.contains (α:=Nat) [7] t:=(rfl)
theorem zeR:zf Tryz.prog zP9 Tryz.f109=true:=by kernel_rfl
def zQA:Cfg:=zI [] []
theorem zid (t:Tmp):zQA.mu t=List.contains (α:=Nat) [] t:=(rfl)
theorem zeS:zf Tryz.prog zQA Tryz.f115=true:=by kernel_rfl
def zQB:Cfg:=zI [] []
theorem zeT (t:Tmp):zQB.mu t=List.contains (α:=Nat) [] t:=(rfl)
theorem zeU:zf Tryz.prog zQB Tryz.f121=true:=by kernel_rfl
def zYg:Cfg:=zI [] []
theorem zie:zf Tryz.prog zYg Tryz.f135=true:=by kernel_rfl
def zQC:Cfg:=zI [] []
theorem zeV (t:Tmp):zQC.mu t=List.contains (α:=Nat) [] t:=(rfl)
theorem zeW:zf Tryz.prog zQC Tryz.f147=true:=by kernel_rfl
def zQD:Cfg:=zI [] [(4,nr 0 10)]
theorem zOT (t:Tmp):zQD.mu t=List.contains (α:=Nat) [] t:=(rfl)
theorem zeX:zf Tryz.prog zQD Tryz.f153=true:=by kernel_rfl
def zJr:Cfg:=zI [] [(3,[(0, .no),(4, .no),(8, .no)]++nr 1 3++nr 5 3++nr 9 9),(4,nr 0 4++ [(7, .no)]++nr 4 3++nr 8 6)]
theorem zF0 (t:Tmp):zJr.mu t=List.contains (α:=Nat) [] t:=(rfl)
theorem zeY:zf Tryz.prog zJr Tryz.f159=true:=by kernel_rfl
def zTt:Cfg:=zI [] []
theorem zeZ:zf Tryz.prog zTt Tryz.f165=true:=by kernel_rfl
def zQE:Cfg:=zI [] []
theorem zMc (t:Tmp):zQE.mu t=List.contains (α:=Nat) [] t:=(rfl)
theorem zea:zf Tryz.prog zQE Tryz.f171=true:=by kernel_rfl
def zTu:Cfg:=zI [] [(6,nr 0 10),(11,nr 0 10)]
theorem zFG (t:Tmp):zTu.mu t=List.contains (α:=Nat) [] t:=(rfl)
theorem zif:zf Tryz.prog zTu Tryz.f177=true:=by kernel_rfl
def zTv:Cfg:=zI [] []
theorem zMd (t:Tmp):zTv.mu t=List.contains (α:=Nat) [] t:=(rfl)
theorem zig:zf Tryz.prog zTv Tryz.f183=true:=by kernel_rfl
def zQF:Cfg:=zI [] []
theorem zih (t:Tmp):zQF.mu t=List.contains (α:=Nat) [] t:=(rfl)
theorem zeb:zf Tryz.prog zQF Tryz.f203=true:=by kernel_rfl
def zTw:Cfg:=zI [] []
theorem zii (t:Tmp):zTw.mu t=List.contains (α:=Nat) [] t:=(rfl)
theorem zij:zf Tryz.prog zTw Tryz.f209=true:=by kernel_rfl
def zYh:Cfg:=zI [] []
theorem zik:zf Tryz.prog zYh Tryz.f252=true:=by kernel_rfl
def zTx:Cfg:=zI [] []
theorem zTy (t:Tmp):zTx.mu t=List.contains (α:=Nat) [] t:=(rfl)
theorem zil:zf Tryz.prog zTx Tryz.f261=true:=by kernel_rfl
def zTz:Cfg:=zI [] [(4,nr 0 9++ [(15, .no)]++nr 9 6++nr 16 4)]
theorem zWf (t:Tmp):zTz.mu t=List.contains (α:=Nat) [] t:=(rfl)
theorem zim:zf Tryz.prog zTz Tryz.f316=true:=by kernel_rfl
def zT0:Cfg:=zI [] []
theorem zin (t:Tmp):zT0.mu t=List.contains (α:=Nat) [] t:=(rfl)
theorem zio:zf Tryz.prog zT0 Tryz.f340=true:=by kernel_rfl
def zkg:Cfg:=zI [] [(9,nr 0 51++ [(52, .no),(53, .no),(51, .no)]++nr 54 5++ [(60, .no),(59, .no)]++nr 61 7)]
theorem ok8:zf Tryz.prog zkg Tryz.f8=true:=by kernel_rfl
def zec:Cfg:=zI [] []
theorem zlf:zf Tryz.prog zec Tryz.f14=true:=by kernel_rfl
def zed:Cfg:=zI [] [(6,nr 0 9)]
theorem zlg:zf Tryz.prog zed Tryz.f20=true:=by kernel_rfl
def zaN:Cfg:=zI [] []
theorem zlh (t:Tmp):zaN.mu t=List.contains (α:=Nat) [] t:=(rfl)
theorem zli:zf Tryz.prog zaN Tryz.f26=true:=by kernel_rfl
def zWg:Cfg:=zI [16] [(6,nr 0 17),(11,[(0, .no),(1, .st)]++nr 2 12),(16,nr 0 20)]
theorem zNn (t:Tmp):zWg.mu t=List.contains (α:=Nat) [16] t:=(rfl)
theorem zkh:zf Tryz.prog zWg Tryz.f38=true:=by kernel_rfl
def zWh:Cfg:=zI [] []
theorem zlj (t:Tmp):zWh.mu t=List.contains (α:=Nat) [] t:=(rfl)
theorem zki:zf Tryz.prog zWh Tryz.f44=true:=by kernel_rfl
def zWi:Cfg:=zI [] []
theorem zee (t:Tmp):zWi.mu t=List.contains (α:=Nat) [] t:=(rfl)
theorem zkj:zf Tryz.prog zWi Tryz.f50=true:=by kernel_rfl
def zef:Cfg:=zI [] []
theorem zlk:zf Tryz.prog zef Tryz.f56=true:=by kernel_rfl
def zeg:Cfg:=zI [] []
theorem zll:zf Tryz.prog zeg Tryz.f62=true:=by kernel_rfl
def zWj:Cfg:=zI [] []
theorem zWk (t:Tmp):zWj.mu t=List.contains (α:=Nat) [] t:=(rfl)
theorem zkk:zf Tryz.prog zWj Tryz.f68=true:=by kernel_rfl
def zWl:Cfg:=zI [] []
theorem zlm (t:Tmp):zWl.mu t=List.contains (α:=Nat) [] t:=(rfl)
theorem zkl:zf Tryz.prog zWl Tryz.f74=true:=by kernel_rfl
def zeh:Cfg:=zI [] [(7,nr 0 12),(9,nr 0 17),(11,nr 0 21)]
theorem zln:zf Tryz.prog zeh Tryz.f86=true:=by kernel_rfl
def zei:Cfg:=zI [] []
theorem zlo:zf Tryz.prog zei Tryz.f92=true:=by kernel_rfl
def zWm:Cfg:=zI [] []
theorem zgd (t:Tmp):zWm.mu t=List.contains (α:=Nat) [] t:=(rfl)
theorem zkm:zf Tryz.prog zWm Tryz.f98=true:=by kernel_rfl
def zQG:Cfg:=zI [] []
theorem zT1 (t:Tmp):zQG.mu t=List.contains (α:=Nat) [] t:=(rfl)
theorem zej:zf Tryz.prog zQG Tryz.f104=true:=by kernel_rfl
def zYi:Cfg:=zI [] []
theorem ziq:zf Tryz.prog zYi Tryz.f110=true:=by kernel_rfl
def zQH:Cfg:=zI [] []
theorem zT2 (t:Tmp):zQH.mu t=List.contains (α:=Nat) [] t:=(rfl)
theorem zek:zf Tryz.prog zQH Tryz.f116=true:=by kernel_rfl
def zT3:Cfg:=zI [44] []
theorem zH7 (t:Tmp):zT3.mu t=List.contains (α:=Nat) [44] t:=(rfl)
theorem zir:zf Tryz.prog zT3 Tryz.f122=true:=by kernel_rfl
def zQI:Cfg:=zI [] []
theorem zMe (t:Tmp):zQI.mu t=List.contains (α:=Nat) [] t:=(rfl)
theorem zel:zf Tryz.prog zQI Tryz.f128=true:=by kernel_rfl
def zYj:Cfg:=zI [] []
theorem zis:zf Tryz.prog zYj Tryz.f136=true:=by kernel_rfl
def zYk:Cfg:=zI [] [(4,nr 0 17),(6,nr 0 18)]
theorem zit:zf Tryz.prog zYk Tryz.f142=true:=by kernel_rfl
def zQJ:Cfg:=zI [] []
theorem zem (t:Tmp):zQJ.mu t=List.contains (α:=Nat) [] t:=(rfl)
theorem zen:zf Tryz.prog zQJ Tryz.f148=true:=by kernel_rfl
def zT4:Cfg:=zI [] [(11,nr 0 19)]
theorem zF1 (t:Tmp):zT4.mu t=List.contains (α:=Nat) [] t:=(rfl)
theorem ziu:zf Tryz.prog zT4 Tryz.f154=true:=by kernel_rfl
def zMf:Cfg:=zI [] []
theorem zT5 (t:Tmp):zMf.mu t=List.contains (α:=Nat) [] t:=(rfl)
theorem zeo:zf Tryz.prog zMf Tryz.f160=true:=by kernel_rfl
def zT6:Cfg:=zI [] []
theorem zep:zf Tryz.prog zT6 Tryz.f166=true:=by kernel_rfl
def zQK:Cfg:=zI [] []
theorem zeq (t:Tmp):zQK.mu t=List.contains (α:=Nat) [] t:=(rfl)
theorem zer:zf Tryz.prog zQK Tryz.f172=true:=by kernel_rfl
def zT7:Cfg:=zI [] []
theorem zT8 (t:Tmp):zT7.mu t=List.contains (α:=Nat) [] t:=(rfl)
theorem ziv:zf Tryz.prog zT7 Tryz.f198=true:=by kernel_rfl
def zQL:Cfg:=zI [] []
theorem ziw (t:Tmp):zQL.mu t=List.contains (α:=Nat) [] t:=(rfl)
theorem zes:zf Tryz.prog zQL Tryz.f204=true:=by kernel_rfl
def zYl:Cfg:=zI [] [(4,nr 0 15),(6,nr 0 18)]
theorem zix:zf Tryz.prog zYl Tryz.f210=true:=by kernel_rfl
def zYm:Cfg:=zI [] []
theorem ziy:zf Tryz.prog zYm Tryz.f216=true:=by kernel_rfl
def zT9:Cfg:=zI [] []
theorem zet:zf Tryz.prog zT9 Tryz.f229=true:=by kernel_rfl
def zUA:Cfg:=zI [] []
theorem zOU (t:Tmp):zUA.mu t=List.contains (α:=Nat) [] t:=(rfl)
theorem ziz:zf Tryz.prog zUA Tryz.f235=true:=by kernel_rfl
def zJs:Cfg:=zI [] [(4,[(0, .no),(4, .no)]++nr 1 3++nr 5 6)]
theorem zF2 (t:Tmp):zJs.mu t=List.contains (α:=Nat) [] t:=(rfl)
theorem zeu:zf Tryz.prog zJs Tryz.f262=true:=by kernel_rfl
def zUB:Cfg:=zI [] []
theorem zev:zf Tryz.prog zUB Tryz.f275=true:=by kernel_rfl
def zUC:Cfg:=zI [] []
theorem zUD (t:Tmp):zUC.mu t=List.contains (α:=Nat) [] t:=(rfl)
theorem zi0:zf Tryz.prog zUC Tryz.f299=true:=by kernel_rfl
def zQM:Cfg:=zI [] []
theorem zi1 (t:Tmp):zQM.mu t=List.contains (α:=Nat) [] t:=(rfl)
theorem zew:zf Tryz.prog zQM Tryz.f317=true:=by kernel_rfl
def zQN:Cfg:=zI [] [(4,nr 0 6)]
theorem zOV (t:Tmp):zQN.mu t=List.contains (α:=Nat) [] t:=(rfl)
theorem zex:zf Tryz.prog zQN Tryz.f341=true:=by kernel_rfl
set_option maxRecDepth 100000
def tab:List (Nat× (Func×Cfg)):=[(8,(Tryz.f8,zkg)),(11,(Tryz.f11,zWL)),(12,(Tryz.f12,zWT)),(13,(Tryz.f13,zeO)),(14,(Tryz.f14,zec)),(17,(Tryz.f17,zWM)),(18,(Tryz.f18,zWU)),(20,(Tryz.f20,zed)),(22,(Tryz.f22,zdY)),(24,(Tryz.f24,zWV)),(27,(Tryz.f27,zV8)),(29,(Tryz.f29,zZ8)),(33,(Tryz.f33,zdN)),(36,(Tryz.f36,zWW)),(37,(Tryz.f37,zWb)),(38,(Tryz.f38,zWg)),(39,(Tryz.f39,zV9)),(40,(Tryz.f40,zWE)),(41,(Tryz.f41,zTZ)),(42,(Tryz.f42,zd5)),(44,(Tryz.f44,zWh)),(45,(Tryz.f45,zWA)),(46,(Tryz.f46,zWF)),(47,(Tryz.f47,zWN)),(48,(Tryz.f48,zWX)),(49,(Tryz.f49,zaK)),(50,(Tryz.f50,zWi)),(53,(Tryz.f53,zaB)),(54,(Tryz.f54,zd6)),(55,(Tryz.f55,zeP)),(56,(Tryz.f56,zef)),(57,(Tryz.f57,zWB)),(58,(Tryz.f58,zda)),(60,(Tryz.f60,zd7)),(62,(Tryz.f62,zeg)),(64,(Tryz.f64,zWG)),(68,(Tryz.f68,zWj)),(69,(Tryz.f69,zWC)),(70,(Tryz.f70,zWH)),(71,(Tryz.f71,zWO)),(72,(Tryz.f72,zWY)),(73,(Tryz.f73,zWc)),(74,(Tryz.f74,zWl)),(75,(Tryz.f75,zWD)),(76,(Tryz.f76,zWI)),(77,(Tryz.f77,zWP)),(78,(Tryz.f78,zTj)),(79,(Tryz.f79,zRT)),(82,(Tryz.f82,zWJ)),(83,(Tryz.f83,zWQ)),(84,(Tryz.f84,zd8)),(85,(Tryz.f85,zeQ)),(86,(Tryz.f86,zeh)),(88,(Tryz.f88,zdb)),(90,(Tryz.f90,zd9)),(91,(Tryz.f91,zWd)),(92,(Tryz.f92,zei)),(93,(Tryz.f93,zdO)),(94,(Tryz.f94,zZ7)),(95,(Tryz.f95,zaD)),(96,(Tryz.f96,zeA)),(97,(Tryz.f97,zWe)),(98,(Tryz.f98,zWm)),(100,(Tryz.f100,zPk)),(104,(Tryz.f104,zQG)),(105,(Tryz.f105,zPh)),(106,(Tryz.f106,zPl)),(107,(Tryz.f107,zPs)),(108,(Tryz.f108,zP0)),(109,(Tryz.f109,zP9)),(110,(Tryz.f110,zYi)),(111,(Tryz.f111,zPi)),(112,(Tryz.f112,zPm)),(113,(Tryz.f113,zMZ)),(114,(Tryz.f114,zP1)),(115,(Tryz.f115,zQA)),(116,(Tryz.f116,zQH)),(117,(Tryz.f117,zTB)),(118,(Tryz.f118,zPn)),(119,(Tryz.f119,zMa)),(120,(Tryz.f120,zP2)),(121,(Tryz.f121,zQB)),(128,(Tryz.f128,zQI)),(130,(Tryz.f130,zYU)),(132,(Tryz.f132,zTQ)),(133,(Tryz.f133,zYa)),(134,(Tryz.f134,zYe)),(135,(Tryz.f135,zYg)),(136,(Tryz.f136,zYj)),(137,(Tryz.f137,zYV)),(138,(Tryz.f138,zYY)),(140,(Tryz.f140,zYf)),(142,(Tryz.f142,zYk)),(144,(Tryz.f144,zTR)),(145,(Tryz.f145,zYb)),(147,(Tryz.f147,zQC)),(148,(Tryz.f148,zQJ)),(151,(Tryz.f151,zPt)),(153,(Tryz.f153,zQD)),(155,(Tryz.f155,zMU)),(156,(Tryz.f156,zMW)),(157,(Tryz.f157,zJp)),(158,(Tryz.f158,zJq)),(159,(Tryz.f159,zJr)),(160,(Tryz.f160,zMf)),(161,(Tryz.f161,zYW)),(162,(Tryz.f162,zYZ)),(163,(Tryz.f163,zPu)),(164,(Tryz.f164,zP3)),(165,(Tryz.f165,zTt)),(166,(Tryz.f166,zT6)),(167,(Tryz.f167,zTE)),(168,(Tryz.f168,zMX)),(169,(Tryz.f169,zPv)),(170,(Tryz.f170,zP4)),(171,(Tryz.f171,zQE)),(172,(Tryz.f172,zQK)),(190,(Tryz.f190,zYX)),(200,(Tryz.f200,zPo)),(201,(Tryz.f201,zPw)),(203,(Tryz.f203,zQF)),(204,(Tryz.f204,zQL)),(206,(Tryz.f206,zPp)),(207,(Tryz.f207,zPx)),(208,(Tryz.f208,zP6)),(210,(Tryz.f210,zYl)),(216,(Tryz.f216,zYm)),(220,(Tryz.f220,zYc)),(221,(Tryz.f221,zP7)),(229,(Tryz.f229,zT9)),(230,(Tryz.f230,zTJ)),(231,(Tryz.f231,zPq)),(252,(Tryz.f252,zYh)),(262,(Tryz.f262,zJs)),(263,(Tryz.f263,zPj)),(264,(Tryz.f264,zPr)),(265,(Tryz.f265,zPy)),(266,(Tryz.f266,zP8)),(275,(Tryz.f275,zUB)),(317,(Tryz.f317,zQM)),(320,(Tryz.f320,zTg)),(341,(Tryz.f341,zQN))]
theorem qG:zFw Tryz.prog tab:=⟨⟨Tryz.func8,ok8⟩,⟨Tryz.func11,zkI⟩,⟨Tryz.func12,zkS⟩,⟨Tryz.func13,zlW⟩,⟨Tryz.func14,zlf⟩,⟨Tryz.func17,zkJ⟩,⟨Tryz.func18,zkT⟩,⟨Tryz.func20,zlg⟩,⟨Tryz.func22,zlF⟩,⟨Tryz.func24,zkU⟩,⟨Tryz.func27,zj3⟩,⟨Tryz.func29,zkK⟩,⟨Tryz.func33,zk7⟩,⟨Tryz.func36,zkV⟩,⟨Tryz.func37,zka⟩,⟨Tryz.func38,zkh⟩,⟨Tryz.func39,zj4⟩,⟨Tryz.func40,zkA⟩,⟨Tryz.func41,zkL⟩,⟨Tryz.func42,zlP⟩,⟨Tryz.func44,zki⟩,⟨Tryz.func45,zj5⟩,⟨Tryz.func46,zkB⟩,⟨Tryz.func47,zkM⟩,⟨Tryz.func48,zkW⟩,⟨Tryz.func49,zkb⟩,⟨Tryz.func50,zkj⟩,⟨Tryz.func53,zkN⟩,⟨Tryz.func54,zlQ⟩,⟨Tryz.func55,zlY⟩,⟨Tryz.func56,zlk⟩,⟨Tryz.func57,zj6⟩,⟨Tryz.func58,zlH⟩,⟨Tryz.func60,zlR⟩,⟨Tryz.func62,zll⟩,⟨Tryz.func64,zkC⟩,⟨Tryz.func68,zkk⟩,⟨Tryz.func69,zj8⟩,⟨Tryz.func70,zkD⟩,⟨Tryz.func71,zkO⟩,⟨Tryz.func72,zkY⟩,⟨Tryz.func73,zkd⟩,⟨Tryz.func74,zkl⟩,⟨Tryz.func75,zj9⟩,⟨Tryz.func76,zkF⟩,⟨Tryz.func77,zkP⟩,⟨Tryz.func78,zkZ⟩,⟨Tryz.func79,zgc⟩,⟨Tryz.func82,zkG⟩,⟨Tryz.func83,zkQ⟩,⟨Tryz.func84,zlT⟩,⟨Tryz.func85,zld⟩,⟨Tryz.func86,zln⟩,⟨Tryz.func88,zlJ⟩,⟨Tryz.func90,zlU⟩,⟨Tryz.func91,zke⟩,⟨Tryz.func92,zlo⟩,⟨Tryz.func93,zlC⟩,⟨Tryz.func94,zkH⟩,⟨Tryz.func95,zkR⟩,⟨Tryz.func96,zlV⟩,⟨Tryz.func97,zkf⟩,⟨Tryz.func98,zkm⟩,⟨Tryz.func100,zdc⟩,⟨Tryz.func104,zej⟩,⟨Tryz.func105,zdP⟩,⟨Tryz.func106,zdd⟩,⟨Tryz.func107,zds⟩,⟨Tryz.func108,zeC⟩,⟨Tryz.func109,zeR⟩,⟨Tryz.func110,ziq⟩,⟨Tryz.func111,zdQ⟩,⟨Tryz.func112,zde⟩,⟨Tryz.func113,zaE⟩,⟨Tryz.func114,zeD⟩,⟨Tryz.func115,zeS⟩,⟨Tryz.func116,zek⟩,⟨Tryz.func117,zdR⟩,⟨Tryz.func118,zdf⟩,⟨Tryz.func119,zdt⟩,⟨Tryz.func120,zeE⟩,⟨Tryz.func121,zeU⟩,⟨Tryz.func128,zel⟩,⟨Tryz.func130,zhb⟩,⟨Tryz.func132,zdg⟩,⟨Tryz.func133,zh9⟩,⟨Tryz.func134,ziO⟩,⟨Tryz.func135,zie⟩,⟨Tryz.func136,zis⟩,⟨Tryz.func137,zhc⟩,⟨Tryz.func138,zht⟩,⟨Tryz.func140,ziP⟩,⟨Tryz.func142,zit⟩,⟨Tryz.func144,zdh⟩,⟨Tryz.func145,ziA⟩,⟨Tryz.func147,zeW⟩,⟨Tryz.func148,zen⟩,⟨Tryz.func151,zdv⟩,⟨Tryz.func153,zeX⟩,⟨Tryz.func155,zdT⟩,⟨Tryz.func156,zdi⟩,⟨Tryz.func157,zdw⟩,⟨Tryz.func158,zeF⟩,⟨Tryz.func159,zeY⟩,⟨Tryz.func160,zeo⟩,⟨Tryz.func161,zhf⟩,⟨Tryz.func162,zhw⟩,⟨Tryz.func163,zdx⟩,⟨Tryz.func164,zeG⟩,⟨Tryz.func165,zeZ⟩,⟨Tryz.func166,zep⟩,⟨Tryz.func167,zdU⟩,⟨Tryz.func168,zdj⟩,⟨Tryz.func169,zdy⟩,⟨Tryz.func170,zeH⟩,⟨Tryz.func171,zea⟩,⟨Tryz.func172,zer⟩,⟨Tryz.func190,zhi⟩,⟨Tryz.func200,zdk⟩,⟨Tryz.func201,zd0⟩,⟨Tryz.func203,zeb⟩,⟨Tryz.func204,zes⟩,⟨Tryz.func206,zdl⟩,⟨Tryz.func207,zd1⟩,⟨Tryz.func208,zeK⟩,⟨Tryz.func210,zix⟩,⟨Tryz.func216,ziy⟩,⟨Tryz.func220,ziG⟩,⟨Tryz.func221,zeL⟩,⟨Tryz.func229,zet⟩,⟨Tryz.func230,zdW⟩,⟨Tryz.func231,zdn⟩,⟨Tryz.func252,zik⟩,⟨Tryz.func262,zeu⟩,⟨Tryz.func263,zdX⟩,⟨Tryz.func264,zdp⟩,⟨Tryz.func265,zd2⟩,⟨Tryz.func266,zeN⟩,⟨Tryz.func275,zev⟩,⟨Tryz.func317,zew⟩,⟨Tryz.func320,zd3⟩,⟨Tryz.func341,zex⟩,trivial⟩
theorem mix:Tryz.prog.follows .mixedOrders=true:=by kernel_rfl
end Go.V
end
