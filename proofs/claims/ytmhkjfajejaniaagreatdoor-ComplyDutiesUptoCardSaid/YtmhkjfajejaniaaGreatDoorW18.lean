/- How functions of this program are read by the machine, part 1. No condition. -/
import Derived.Test.YtmhkjfajejaniaaGreatDoorW04
import Derived.KernelRfl
import Derived.Test.YtmhkjfajejaniaaGreatDoorProg
set_option linter.all false
noncomputable section
namespace Go.V
open Go.Proofs
def zhd:Cfg:=zI [] []
theorem mu9 (t:Tmp):zhd.mu t=List.contains (α:=Nat) [] t:=(rfl)
theorem ok9:zd Tryz.prog zhd Tryz.f9=true:=by kernel_rfl
def zV9:Cfg:=zI [] []
theorem zlC (t:Tmp):zV9.mu t=List.contains (α:=Nat) [] t:=(rfl)
theorem zj9:zd Tryz.prog zV9 Tryz.f27=true:=by kernel_rfl
def zdY:Cfg:=zI [17] [(7,nr 0 10)]
theorem zlD:zd Tryz.prog zdY Tryz.f33=true:=by kernel_rfl
def zWA:Cfg:=zI [] []
theorem zKj (t:Tmp):zWA.mu t=List.contains (α:=Nat) [] t:=(rfl)
theorem zkA:zd Tryz.prog zWA Tryz.f39=true:=by kernel_rfl
def zWB:Cfg:=zI [] []
theorem zlE (t:Tmp):zWB.mu t=List.contains (α:=Nat) [] t:=(rfl)
theorem zkB:zd Tryz.prog zWB Tryz.f45=true:=by kernel_rfl
def zWC:Cfg:=zI [] []
theorem zkC (t:Tmp):zWC.mu t=List.contains (α:=Nat) [] t:=(rfl)
theorem zkD:zd Tryz.prog zWC Tryz.f51=true:=by kernel_rfl
def zWD:Cfg:=zI [] []
theorem zhe (t:Tmp):zWD.mu t=List.contains (α:=Nat) [] t:=(rfl)
theorem zkE:zd Tryz.prog zWD Tryz.f57=true:=by kernel_rfl
def zZ4:Cfg:=zI [] [(1,nr 0 4++ [(5, .no),(6, .st),(7, .no),(8, .st),(4, .no)]++nr 9 4)]
theorem zkF (t:Tmp):zZ4.mu t=List.contains (α:=Nat) [] t:=(rfl)
theorem zlF:zd Tryz.prog zZ4 Tryz.f63=true:=by kernel_rfl
def zWE:Cfg:=zI [7] []
theorem zlG (t:Tmp):zWE.mu t=List.contains (α:=Nat) [7] t:=(rfl)
theorem zkG:zd Tryz.prog zWE Tryz.f69=true:=by kernel_rfl
def zWF:Cfg:=zI [] []
theorem zlH (t:Tmp):zWF.mu t=List.contains (α:=Nat) [] t:=(rfl)
theorem zkH:zd Tryz.prog zWF Tryz.f75=true:=by kernel_rfl
def zWG:Cfg:=zI [] []
theorem zkI (t:Tmp):zWG.mu t=List.contains (α:=Nat) [] t:=(rfl)
theorem zkJ:zd Tryz.prog zWG Tryz.f81=true:=by kernel_rfl
def zdZ:Cfg:=zI [] []
theorem zlI:zd Tryz.prog zdZ Tryz.f93=true:=by kernel_rfl
def zZ5:Cfg:=zI [] [(9,nr 0 25)]
theorem zgZ (t:Tmp):zZ5.mu t=List.contains (α:=Nat) [] t:=(rfl)
theorem zlJ:zd Tryz.prog zZ5 Tryz.f99=true:=by kernel_rfl
def zPb:Cfg:=zI [] []
theorem zTC (t:Tmp):zPb.mu t=List.contains (α:=Nat) [] t:=(rfl)
theorem zda:zd Tryz.prog zPb Tryz.f105=true:=by kernel_rfl
def zPc:Cfg:=zI [] [(6,nr 0 10),(11,nr 0 10)]
theorem zEv (t:Tmp):zPc.mu t=List.contains (α:=Nat) [] t:=(rfl)
theorem zdb:zd Tryz.prog zPc Tryz.f111=true:=by kernel_rfl
def zTD:Cfg:=zI [] []
theorem zdc:zd Tryz.prog zTD Tryz.f117=true:=by kernel_rfl
def zTE:Cfg:=zI [] []
theorem zdd (t:Tmp):zTE.mu t=List.contains (α:=Nat) [] t:=(rfl)
theorem zhf:zd Tryz.prog zTE Tryz.f123=true:=by kernel_rfl
def zYR:Cfg:=zI [] []
theorem zhg:zd Tryz.prog zYR Tryz.f130=true:=by kernel_rfl
def zYS:Cfg:=zI [] []
theorem zhh:zd Tryz.prog zYS Tryz.f137=true:=by kernel_rfl
def zTF:Cfg:=zI [] []
theorem zhi (t:Tmp):zTF.mu t=List.contains (α:=Nat) [] t:=(rfl)
theorem zhj:zd Tryz.prog zTF Tryz.f149=true:=by kernel_rfl
def zMM:Cfg:=zI [] []
theorem zRN (t:Tmp):zMM.mu t=List.contains (α:=Nat) [] t:=(rfl)
theorem zde:zd Tryz.prog zMM Tryz.f155=true:=by kernel_rfl
def zYT:Cfg:=zI [] [(17,nr 0 15)]
theorem zhk:zd Tryz.prog zYT Tryz.f161=true:=by kernel_rfl
def zTG:Cfg:=zI [] []
theorem zdf:zd Tryz.prog zTG Tryz.f167=true:=by kernel_rfl
def zTH:Cfg:=zI [] []
theorem zhl (t:Tmp):zTH.mu t=List.contains (α:=Nat) [] t:=(rfl)
theorem zhm:zd Tryz.prog zTH Tryz.f179=true:=by kernel_rfl
def zYU:Cfg:=zI [] []
theorem zhn:zd Tryz.prog zYU Tryz.f190=true:=by kernel_rfl
def zTI:Cfg:=zI [] [(3,[(2, .no),(0, .no),(1, .st)]++nr 3 6)]
theorem zTJ (t:Tmp):zTI.mu t=List.contains (α:=Nat) [] t:=(rfl)
theorem zho:zd Tryz.prog zTI Tryz.f199=true:=by kernel_rfl
def zTK:Cfg:=zI [] [(1,[(2, .no),(0, .no),(1, .no)]++nr 3 10)]
theorem zdg (t:Tmp):zTK.mu t=List.contains (α:=Nat) [] t:=(rfl)
theorem zhp:zd Tryz.prog zTK Tryz.f205=true:=by kernel_rfl
def zTL:Cfg:=zI [] []
theorem zdh:zd Tryz.prog zTL Tryz.f230=true:=by kernel_rfl
def zTM:Cfg:=zI [] []
theorem zhq (t:Tmp):zTM.mu t=List.contains (α:=Nat) [] t:=(rfl)
theorem zhr:zd Tryz.prog zTM Tryz.f236=true:=by kernel_rfl
def zPd:Cfg:=zI [] []
theorem zhs (t:Tmp):zPd.mu t=List.contains (α:=Nat) [] t:=(rfl)
theorem zdi:zd Tryz.prog zPd Tryz.f263=true:=by kernel_rfl
def zTN:Cfg:=zI [] [(4,nr 0 6)]
theorem zOE (t:Tmp):zTN.mu t=List.contains (α:=Nat) [] t:=(rfl)
theorem zht:zd Tryz.prog zTN Tryz.f300=true:=by kernel_rfl
def zTO:Cfg:=zI [] []
theorem zTP (t:Tmp):zTO.mu t=List.contains (α:=Nat) [] t:=(rfl)
theorem zhu:zd Tryz.prog zTO Tryz.f336=true:=by kernel_rfl
def zZ6:Cfg:=zI [] []
theorem zhv (t:Tmp):zZ6.mu t=List.contains (α:=Nat) [] t:=(rfl)
theorem zlK:zd Tryz.prog zZ6 Tryz.f10=true:=by kernel_rfl
def zdj:Cfg:=zI [7] []
theorem zlL:zd Tryz.prog zdj Tryz.f22=true:=by kernel_rfl
def zZ7:Cfg:=zI [] [(7,nr 0 14),(14,[(1, .no),(0, .no)]++nr 2 8)]
theorem zLh (t:Tmp):zZ7.mu t=List.contains (α:=Nat) [] t:=(rfl)
theorem zlM:zd Tryz.prog zZ7 Tryz.f34=true:=by kernel_rfl
def zWH:Cfg:=zI [] [(10,nr 0 11),(16,nr 0 8)]
theorem zTQ (t:Tmp):zWH.mu t=List.contains (α:=Nat) [] t:=(rfl)
theorem zkK:zd Tryz.prog zWH Tryz.f40=true:=by kernel_rfl
def zdk:Cfg:=zI [] []
theorem zlN:zd Tryz.prog zdk Tryz.f46=true:=by kernel_rfl
def zZ8:Cfg:=zI [] []
theorem zdl (t:Tmp):zZ8.mu t=List.contains (α:=Nat) [] t:=(rfl)
theorem zlO:zd Tryz.prog zZ8 Tryz.f52=true:=by kernel_rfl
def zdm:Cfg:=zI [] []
theorem zlP:zd Tryz.prog zdm Tryz.f58=true:=by kernel_rfl
def zWI:Cfg:=zI [] []
theorem zKk (t:Tmp):zWI.mu t=List.contains (α:=Nat) [] t:=(rfl)
theorem zkL:zd Tryz.prog zWI Tryz.f64=true:=by kernel_rfl
def zWJ:Cfg:=zI [] []
theorem zlQ (t:Tmp):zWJ.mu t=List.contains (α:=Nat) [] t:=(rfl)
theorem zkM:zd Tryz.prog zWJ Tryz.f70=true:=by kernel_rfl
def zWK:Cfg:=zI [] [(1,nr 0 4++ [(5, .no),(6, .st),(7, .no),(8, .st),(4, .no)]++nr 9 4)]
theorem zkN (t:Tmp):zWK.mu t=List.contains (α:=Nat) [] t:=(rfl)
theorem zkO:zd Tryz.prog zWK Tryz.f76=true:=by kernel_rfl
def zWL:Cfg:=zI [] []
theorem zRO (t:Tmp):zWL.mu t=List.contains (α:=Nat) [] t:=(rfl)
theorem zkP:zd Tryz.prog zWL Tryz.f82=true:=by kernel_rfl
def zdn:Cfg:=zI [] [(3,[(0, .no),(1, .no),(2, .st),(4, .no),(5, .no),(6, .st),(9, .no),(10, .no),(11, .st),(14, .no),(15, .no),(16, .st),(3, .st),(7, .st),(8, .st),(12, .st),(13, .st),(17, .st)]++nr 18 3),(6,nr 0 7),(7,[(6, .no)]++nr 0 6++nr 7 6)]
theorem zlR:zd Tryz.prog zdn Tryz.f88=true:=by kernel_rfl
def zZ9:Cfg:=zI [] []
theorem zkQ:zd Tryz.prog zZ9 Tryz.f94=true:=by kernel_rfl
def zPe:Cfg:=zI [] [(16,nr 0 8++ [(13, .no)]++nr 8 5++nr 14 4)]
theorem zMN (t:Tmp):zPe.mu t=List.contains (α:=Nat) [] t:=(rfl)
theorem zdo:zd Tryz.prog zPe Tryz.f100=true:=by kernel_rfl
def zPf:Cfg:=zI [] []
theorem zGZ (t:Tmp):zPf.mu t=List.contains (α:=Nat) [] t:=(rfl)
theorem zdp:zd Tryz.prog zPf Tryz.f106=true:=by kernel_rfl
def zPg:Cfg:=zI [] []
theorem zhw (t:Tmp):zPg.mu t=List.contains (α:=Nat) [] t:=(rfl)
theorem zdq:zd Tryz.prog zPg Tryz.f112=true:=by kernel_rfl
def zPh:Cfg:=zI [] []
theorem zWM (t:Tmp):zPh.mu t=List.contains (α:=Nat) [] t:=(rfl)
theorem zdr:zd Tryz.prog zPh Tryz.f118=true:=by kernel_rfl
def zTR:Cfg:=zI [24] []
theorem zGa (t:Tmp):zTR.mu t=List.contains (α:=Nat) [24] t:=(rfl)
theorem zhx:zd Tryz.prog zTR Tryz.f124=true:=by kernel_rfl
def zTS:Cfg:=zI [] []
theorem zds:zd Tryz.prog zTS Tryz.f132=true:=by kernel_rfl
def zYV:Cfg:=zI [] [(4,nr 0 17),(6,nr 0 18)]
theorem zhy:zd Tryz.prog zYV Tryz.f138=true:=by kernel_rfl
def zTT:Cfg:=zI [] []
theorem zdt:zd Tryz.prog zTT Tryz.f144=true:=by kernel_rfl
def zTU:Cfg:=zI [] []
theorem zhz (t:Tmp):zTU.mu t=List.contains (α:=Nat) [] t:=(rfl)
theorem zh0:zd Tryz.prog zTU Tryz.f150=true:=by kernel_rfl
def zMO:Cfg:=zI [] [(3,[(0, .st),(4, .st),(1, .no),(2, .no),(3, .st),(5, .no),(6, .no),(7, .st),(8, .no),(9, .st),(10, .no),(11, .no),(12, .st),(13, .st)]++nr 14 6)]
theorem zKl (t:Tmp):zMO.mu t=List.contains (α:=Nat) [] t:=(rfl)
theorem zdu:zd Tryz.prog zMO Tryz.f156=true:=by kernel_rfl
def zYW:Cfg:=zI [] []
theorem zh1:zd Tryz.prog zYW Tryz.f162=true:=by kernel_rfl
def zMP:Cfg:=zI [] []
theorem zTV (t:Tmp):zMP.mu t=List.contains (α:=Nat) [] t:=(rfl)
theorem zdv:zd Tryz.prog zMP Tryz.f168=true:=by kernel_rfl
def zTW:Cfg:=zI [] []
theorem zh2 (t:Tmp):zTW.mu t=List.contains (α:=Nat) [] t:=(rfl)
theorem zh3:zd Tryz.prog zTW Tryz.f174=true:=by kernel_rfl
def zTX:Cfg:=zI [] []
theorem zh4 (t:Tmp):zTX.mu t=List.contains (α:=Nat) [] t:=(rfl)
theorem zh5:zd Tryz.prog zTX Tryz.f180=true:=by kernel_rfl
def zPi:Cfg:=zI [] []
theorem zh6 (t:Tmp):zPi.mu t=List.contains (α:=Nat) [] t:=(rfl)
theorem zdw:zd Tryz.prog zPi Tryz.f200=true:=by kernel_rfl
def zPj:Cfg:=zI [] [(7,nr 0 9)]
theorem zIt (t:Tmp):zPj.mu t=List.contains (α:=Nat) [] t:=(rfl)
theorem zdx:zd Tryz.prog zPj Tryz.f206=true:=by kernel_rfl
def zPk:Cfg:=zI [] []
theorem zdy (t:Tmp):zPk.mu t=List.contains (α:=Nat) [] t:=(rfl)
theorem zdz:zd Tryz.prog zPk Tryz.f231=true:=by kernel_rfl
def zTY:Cfg:=zI [] []
theorem zh7 (t:Tmp):zTY.mu t=List.contains (α:=Nat) [] t:=(rfl)
theorem zh8:zd Tryz.prog zTY Tryz.f237=true:=by kernel_rfl
def zPl:Cfg:=zI [] [(1,[(2, .no),(6, .no),(0, .no),(1, .no)]++nr 3 3++nr 7 5)]
theorem zd0 (t:Tmp):zPl.mu t=List.contains (α:=Nat) [] t:=(rfl)
theorem zd1:zd Tryz.prog zPl Tryz.f264=true:=by kernel_rfl
def zTZ:Cfg:=zI [] [(10,nr 0 14),(15,nr 0 20)]
theorem zHl (t:Tmp):zTZ.mu t=List.contains (α:=Nat) [] t:=(rfl)
theorem zh9:zd Tryz.prog zTZ Tryz.f313=true:=by kernel_rfl
def zTa:Cfg:=zI [] []
theorem zOF (t:Tmp):zTa.mu t=List.contains (α:=Nat) [] t:=(rfl)
theorem ziA:zd Tryz.prog zTa Tryz.f337=true:=by kernel_rfl
def zWN:Cfg:=zI [] []
theorem zcH (t:Tmp):zWN.mu t=List.contains (α:=Nat) [] t:=(rfl)
theorem zkR:zd Tryz.prog zWN Tryz.f11=true:=by kernel_rfl
def zd2:Cfg:=zI [] []
theorem zlS:zd Tryz.prog zd2 Tryz.f17=true:=by kernel_rfl
def zaA:Cfg:=zI [] []
theorem zkS:zd Tryz.prog zaA Tryz.f29=true:=by kernel_rfl
def zaB:Cfg:=zI [] []
theorem zga (t:Tmp):zaB.mu t=List.contains (α:=Nat) [] t:=(rfl)
theorem zlT:zd Tryz.prog zaB Tryz.f35=true:=by kernel_rfl
def zd3:Cfg:=zI [] []
theorem zlU:zd Tryz.prog zd3 Tryz.f41=true:=by kernel_rfl
def zWO:Cfg:=zI [] []
theorem zaC (t:Tmp):zWO.mu t=List.contains (α:=Nat) [] t:=(rfl)
theorem zkT:zd Tryz.prog zWO Tryz.f47=true:=by kernel_rfl
def zaD:Cfg:=zI [] []
theorem zkU:zd Tryz.prog zaD Tryz.f53=true:=by kernel_rfl
def zaE:Cfg:=zI [] [(7,nr 0 26),(11,nr 0 26),(15,nr 0 18),(23,nr 0 18)]
theorem zHm (t:Tmp):zaE.mu t=List.contains (α:=Nat) [] t:=(rfl)
theorem zlV:zd Tryz.prog zaE Tryz.f65=true:=by kernel_rfl
def zWP:Cfg:=zI [] []
theorem zlW (t:Tmp):zWP.mu t=List.contains (α:=Nat) [] t:=(rfl)
theorem zkV:zd Tryz.prog zWP Tryz.f71=true:=by kernel_rfl
def zWQ:Cfg:=zI [] [(20,nr 0 12)]
theorem zRP (t:Tmp):zWQ.mu t=List.contains (α:=Nat) [] t:=(rfl)
theorem zkW:zd Tryz.prog zWQ Tryz.f77=true:=by kernel_rfl
def zWR:Cfg:=zI [31] []
theorem zlX (t:Tmp):zWR.mu t=List.contains (α:=Nat) [31] t:=(rfl)
theorem zkX:zd Tryz.prog zWR Tryz.f83=true:=by kernel_rfl
def zaF:Cfg:=zI [] []
theorem zkY:zd Tryz.prog zaF Tryz.f95=true:=by kernel_rfl
def zTb:Cfg:=zI [] [(9,nr 0 9++ [(14, .no)]++nr 9 5++nr 15 4)]
theorem zMQ (t:Tmp):zTb.mu t=List.contains (α:=Nat) [] t:=(rfl)
theorem ziB:zd Tryz.prog zTb Tryz.f101=true:=by kernel_rfl
def zPm:Cfg:=zI [] []
theorem zd4 (t:Tmp):zPm.mu t=List.contains (α:=Nat) [] t:=(rfl)
theorem zd5:zd Tryz.prog zPm Tryz.f107=true:=by kernel_rfl
def zMR:Cfg:=zI [] [(6,nr 0 11),(11,nr 0 12)]
theorem zEI (t:Tmp):zMR.mu t=List.contains (α:=Nat) [] t:=(rfl)
theorem zaG:zd Tryz.prog zMR Tryz.f113=true:=by kernel_rfl
def zMS:Cfg:=zI [] []
theorem zKm (t:Tmp):zMS.mu t=List.contains (α:=Nat) [] t:=(rfl)
theorem zd6:zd Tryz.prog zMS Tryz.f119=true:=by kernel_rfl
def zTc:Cfg:=zI [] []
theorem zd7 (t:Tmp):zTc.mu t=List.contains (α:=Nat) [] t:=(rfl)
theorem ziC:zd Tryz.prog zTc Tryz.f125=true:=by kernel_rfl
def zYX:Cfg:=zI [] [(4,nr 0 5)]
theorem ziD:zd Tryz.prog zYX Tryz.f133=true:=by kernel_rfl
def zYY:Cfg:=zI [] [(4,nr 0 17),(6,nr 0 18)]
theorem ziE:zd Tryz.prog zYY Tryz.f145=true:=by kernel_rfl
def zPn:Cfg:=zI [] []
theorem ziF (t:Tmp):zPn.mu t=List.contains (α:=Nat) [] t:=(rfl)
theorem zd8:zd Tryz.prog zPn Tryz.f151=true:=by kernel_rfl
def zJZ:Cfg:=zI [] [(6,nr 0 19)]
theorem zHn (t:Tmp):zJZ.mu t=List.contains (α:=Nat) [] t:=(rfl)
theorem zd9:zd Tryz.prog zJZ Tryz.f157=true:=by kernel_rfl
def zPo:Cfg:=zI [] [(17,nr 0 17)]
theorem zaH (t:Tmp):zPo.mu t=List.contains (α:=Nat) [] t:=(rfl)
theorem zeA:zd Tryz.prog zPo Tryz.f163=true:=by kernel_rfl
def zPp:Cfg:=zI [] []
theorem zWS (t:Tmp):zPp.mu t=List.contains (α:=Nat) [] t:=(rfl)
theorem zeB:zd Tryz.prog zPp Tryz.f169=true:=by kernel_rfl
def zTd:Cfg:=zI [] []
theorem ziG (t:Tmp):zTd.mu t=List.contains (α:=Nat) [] t:=(rfl)
theorem ziH:zd Tryz.prog zTd Tryz.f175=true:=by kernel_rfl
def zTe:Cfg:=zI [] []
theorem zeC (t:Tmp):zTe.mu t=List.contains (α:=Nat) [] t:=(rfl)
theorem ziI:zd Tryz.prog zTe Tryz.f181=true:=by kernel_rfl
def zPq:Cfg:=zI [] [(1,nr 0 9),(4,[(4, .no)]++nr 0 4++nr 5 18++ [(25, .no),(23, .no),(24, .no)])]
theorem zGb (t:Tmp):zPq.mu t=List.contains (α:=Nat) [] t:=(rfl)
theorem zeD:zd Tryz.prog zPq Tryz.f201=true:=by kernel_rfl
def zPr:Cfg:=zI [] []
theorem ziJ (t:Tmp):zPr.mu t=List.contains (α:=Nat) [] t:=(rfl)
theorem zeE:zd Tryz.prog zPr Tryz.f207=true:=by kernel_rfl
def zYZ:Cfg:=zI [] []
theorem ziK:zd Tryz.prog zYZ Tryz.f220=true:=by kernel_rfl
def zTf:Cfg:=zI [] []
theorem ziL (t:Tmp):zTf.mu t=List.contains (α:=Nat) [] t:=(rfl)
theorem ziM:zd Tryz.prog zTf Tryz.f238=true:=by kernel_rfl
def zPs:Cfg:=zI [] []
theorem zKn (t:Tmp):zPs.mu t=List.contains (α:=Nat) [] t:=(rfl)
theorem zeF:zd Tryz.prog zPs Tryz.f265=true:=by kernel_rfl
def zTg:Cfg:=zI [] [(11,nr 0 20),(16,nr 0 12)]
theorem zHo (t:Tmp):zTg.mu t=List.contains (α:=Nat) [] t:=(rfl)
theorem ziN:zd Tryz.prog zTg Tryz.f314=true:=by kernel_rfl
def zTh:Cfg:=zI [] []
theorem zeG:zd Tryz.prog zTh Tryz.f320=true:=by kernel_rfl
def zTi:Cfg:=zI [] []
theorem zWT (t:Tmp):zTi.mu t=List.contains (α:=Nat) [] t:=(rfl)
theorem ziO:zd Tryz.prog zTi Tryz.f338=true:=by kernel_rfl
def zeH:Cfg:=zI [] []
theorem zlY:zd Tryz.prog zeH Tryz.f12=true:=by kernel_rfl
def zeI:Cfg:=zI [] []
theorem zlZ:zd Tryz.prog zeI Tryz.f18=true:=by kernel_rfl
def zWU:Cfg:=zI [] []
theorem zTj (t:Tmp):zWU.mu t=List.contains (α:=Nat) [] t:=(rfl)
theorem zkZ:zd Tryz.prog zWU Tryz.f24=true:=by kernel_rfl
def zWV:Cfg:=zI [] []
theorem zcI (t:Tmp):zWV.mu t=List.contains (α:=Nat) [] t:=(rfl)
theorem zla:zd Tryz.prog zWV Tryz.f30=true:=by kernel_rfl
def zWW:Cfg:=zI [] []
theorem zgb (t:Tmp):zWW.mu t=List.contains (α:=Nat) [] t:=(rfl)
theorem zka:zd Tryz.prog zWW Tryz.f36=true:=by kernel_rfl
def zTk:Cfg:=zI [] []
theorem zcJ (t:Tmp):zTk.mu t=List.contains (α:=Nat) [] t:=(rfl)
theorem zkb:zd Tryz.prog zTk Tryz.f42=true:=by kernel_rfl
def zWX:Cfg:=zI [] []
theorem ziP (t:Tmp):zWX.mu t=List.contains (α:=Nat) [] t:=(rfl)
theorem zkc:zd Tryz.prog zWX Tryz.f48=true:=by kernel_rfl
def zeJ:Cfg:=zI [] []
theorem zlb:zd Tryz.prog zeJ Tryz.f54=true:=by kernel_rfl
def zeK:Cfg:=zI [] []
theorem zlc:zd Tryz.prog zeK Tryz.f60=true:=by kernel_rfl
def zaI:Cfg:=zI [] []
theorem zkd (t:Tmp):zaI.mu t=List.contains (α:=Nat) [] t:=(rfl)
theorem zld:zd Tryz.prog zaI Tryz.f66=true:=by kernel_rfl
def zWY:Cfg:=zI [] [(6,nr 0 9)]
theorem zYa (t:Tmp):zWY.mu t=List.contains (α:=Nat) [] t:=(rfl)
theorem zke:zd Tryz.prog zWY Tryz.f72=true:=by kernel_rfl
def zTl:Cfg:=zI [] []
theorem zVf (t:Tmp):zTl.mu t=List.contains (α:=Nat) [] t:=(rfl)
theorem zkf:zd Tryz.prog zTl Tryz.f78=true:=by kernel_rfl
def zeL:Cfg:=zI [] []
theorem zle:zd Tryz.prog zeL Tryz.f84=true:=by kernel_rfl
def zeM:Cfg:=zI [] []
theorem zlf:zd Tryz.prog zeM Tryz.f90=true:=by kernel_rfl
def zeN:Cfg:=zI [] []
theorem zlg:zd Tryz.prog zeN Tryz.f96=true:=by kernel_rfl
def zPt:Cfg:=zI [] []
theorem zOG (t:Tmp):zPt.mu t=List.contains (α:=Nat) [] t:=(rfl)
theorem zeO:zd Tryz.prog zPt Tryz.f102=true:=by kernel_rfl
def zPu:Cfg:=zI [16] [(2,[(0, .st),(1, .no),(2, .st)]++nr 3 6)]
theorem zWZ (t:Tmp):zPu.mu t=List.contains (α:=Nat) [16] t:=(rfl)
theorem zeP:zd Tryz.prog zPu Tryz.f108=true:=by kernel_rfl
def zPv:Cfg:=zI [] []
theorem zOH (t:Tmp):zPv.mu t=List.contains (α:=Nat) [] t:=(rfl)
theorem zeQ:zd Tryz.prog zPv Tryz.f114=true:=by kernel_rfl
def zPw:Cfg:=zI [] []
theorem ziQ (t:Tmp):zPw.mu t=List.contains (α:=Nat) [] t:=(rfl)
theorem zeR:zd Tryz.prog zPw Tryz.f120=true:=by kernel_rfl
def zTm:Cfg:=zI [] []
theorem zWa (t:Tmp):zTm.mu t=List.contains (α:=Nat) [] t:=(rfl)
theorem ziR:zd Tryz.prog zTm Tryz.f126=true:=by kernel_rfl
def zYb:Cfg:=zI [] []
theorem ziS:zd Tryz.prog zYb Tryz.f134=true:=by kernel_rfl
def zYc:Cfg:=zI [] [(4,nr 0 17),(6,nr 0 18)]
theorem ziT:zd Tryz.prog zYc Tryz.f140=true:=by kernel_rfl
def zTn:Cfg:=zI [] [(4,nr 0 10)]
theorem zOI (t:Tmp):zTn.mu t=List.contains (α:=Nat) [] t:=(rfl)
theorem ziU:zd Tryz.prog zTn Tryz.f152=true:=by kernel_rfl
def zJa:Cfg:=zI [] [(3,nr 0 10),(6,[(0, .no),(9, .no)]++nr 1 8++nr 10 10),(7,nr 0 34),(8,[(0, .no),(1, .no),(8, .no)]++nr 2 6++nr 9 7)]
theorem zEw (t:Tmp):zJa.mu t=List.contains (α:=Nat) [] t:=(rfl)
theorem zeS:zd Tryz.prog zJa Tryz.f158=true:=by kernel_rfl
def zPx:Cfg:=zI [] []
theorem ziV (t:Tmp):zPx.mu t=List.contains (α:=Nat) [] t:=(rfl)
theorem zeT:zd Tryz.prog zPx Tryz.f164=true:=by kernel_rfl
def zPy:Cfg:=zI [] []
theorem ziW (t:Tmp):zPy.mu t=List.contains (α:=Nat) [] t:=(rfl)
theorem zeU:zd Tryz.prog zPy Tryz.f170=true:=by kernel_rfl
def zTo:Cfg:=zI [] [(1,nr 0 4++ [(5, .no),(6, .st),(7, .no),(8, .st),(4, .no)]++nr 9 4)]
theorem zeV (t:Tmp):zTo.mu t=List.contains (α:=Nat) [] t:=(rfl)
theorem ziX:zd Tryz.prog zTo Tryz.f176=true:=by kernel_rfl
def zPz:Cfg:=zI [2] []
theorem zTp (t:Tmp):zPz.mu t=List.contains (α:=Nat) [2] t:=(rfl)
theorem ziY:zd Tryz.prog zPz Tryz.f182=true:=by kernel_rfl
def zTq:Cfg:=zI [] []
theorem ziZ (t:Tmp):zTq.mu t=List.contains (α:=Nat) [] t:=(rfl)
theorem zia:zd Tryz.prog zTq Tryz.f202=true:=by kernel_rfl
def zP0:Cfg:=zI [] [(1,[(2, .no),(6, .no),(0, .no),(1, .no)]++nr 3 3++nr 7 5)]
theorem zeW (t:Tmp):zP0.mu t=List.contains (α:=Nat) [] t:=(rfl)
theorem zeX:zd Tryz.prog zP0 Tryz.f208=true:=by kernel_rfl
def zP1:Cfg:=zI [] [(4,nr 0 17),(6,nr 0 18)]
theorem zaJ (t:Tmp):zP1.mu t=List.contains (α:=Nat) [] t:=(rfl)
theorem zeY:zd Tryz.prog zP1 Tryz.f221=true:=by kernel_rfl
def zTr:Cfg:=zI [] []
theorem zBt (t:Tmp):zTr.mu t=List.contains (α:=Nat) [] t:=(rfl)
theorem zib:zd Tryz.prog zTr Tryz.f260=true:=by kernel_rfl
def zP2:Cfg:=zI [] []
theorem zeZ (t:Tmp):zP2.mu t=List.contains (α:=Nat) [] t:=(rfl)
theorem zea:zd Tryz.prog zP2 Tryz.f266=true:=by kernel_rfl
def zTs:Cfg:=zI [] [(11,nr 0 8),(16,nr 0 12),(18,nr 0 3++ [(9, .no)]++nr 3 6++nr 10 3)]
theorem zGc (t:Tmp):zTs.mu t=List.contains (α:=Nat) [] t:=(rfl)
theorem zic:zd Tryz.prog zTs Tryz.f315=true:=by kernel_rfl
def zTt:Cfg:=zI [] []
theorem zid (t:Tmp):zTt.mu t=List.contains (α:=Nat) [] t:=(rfl)
theorem zie:zd Tryz.prog zTt Tryz.f339=true:=by kernel_rfl
def zif:Cfg:=zI [] [(8,[(0, .st)]++nr 1 5++ [(6, .st)]++nr 7 6)]
theorem mu7 (t:Tmp):zif.mu t=List.contains (α:=Nat) [] t:=(rfl)
theorem ok7:zd Tryz.prog zif Tryz.f7=true:=by kernel_rfl
def zWb:Cfg:=zI [] []
theorem zgc (t:Tmp):zWb.mu t=List.contains (α:=Nat) [] t:=(rfl)
theorem zkg:zd Tryz.prog zWb Tryz.f13=true:=by kernel_rfl
def zaK:Cfg:=zI [] []
theorem zlh (t:Tmp):zaK.mu t=List.contains (α:=Nat) [] t:=(rfl)
theorem zli:zd Tryz.prog zaK Tryz.f31=true:=by kernel_rfl
def zWc:Cfg:=zI [] []
theorem zaL (t:Tmp):zWc.mu t=List.contains (α:=Nat) [] t:=(rfl)
theorem zkh:zd Tryz.prog zWc Tryz.f37=true:=by kernel_rfl
def zaM:Cfg:=zI [] []
theorem zki:zd Tryz.prog zaM Tryz.f49=true:=by kernel_rfl
def zeb:Cfg:=zI [] []
theorem zlj:zd Tryz.prog zeb Tryz.f55=true:=by kernel_rfl
def zaN:Cfg:=zI [] [(1,nr 0 4++ [(5, .no),(6, .st),(7, .no),(8, .st),(10, .no),(11, .st),(12, .no),(13, .st),(15, .no),(16, .st),(17, .no),(18, .st),(4, .no),(9, .no),(14, .no)]++nr 19 4)]
theorem zkj (t:Tmp):zaN.mu t=List.contains (α:=Nat) [] t:=(rfl)
theorem zlk:zd Tryz.prog zaN Tryz.f61=true:=by kernel_rfl
def zaO:Cfg:=zI [] []
theorem zll (t:Tmp):zaO.mu t=List.contains (α:=Nat) [] t:=(rfl)
theorem zlm:zd Tryz.prog zaO Tryz.f67=true:=by kernel_rfl
def zWd:Cfg:=zI [] []
theorem zln (t:Tmp):zWd.mu t=List.contains (α:=Nat) [] t:=(rfl)
theorem zkk:zd Tryz.prog zWd Tryz.f73=true:=by kernel_rfl
def zRQ:Cfg:=zI [] []
theorem zHp (t:Tmp):zRQ.mu t=List.contains (α:=Nat) [] t:=(rfl)
theorem zgd:zd Tryz.prog zRQ Tryz.f79=true:=by kernel_rfl
def zec:Cfg:=zI [] []
theorem zlo:zd Tryz.prog zec Tryz.f85=true:=by kernel_rfl
def zWe:Cfg:=zI [] []
theorem zlp (t:Tmp):zWe.mu t=List.contains (α:=Nat) [] t:=(rfl)
theorem zkl:zd Tryz.prog zWe Tryz.f91=true:=by kernel_rfl
def zWf:Cfg:=zI [] [(14,nr 0 13)]
theorem zET (t:Tmp):zWf.mu t=List.contains (α:=Nat) [] t:=(rfl)
theorem zkm:zd Tryz.prog zWf Tryz.f97=true:=by kernel_rfl
def zTu:Cfg:=zI [] [(10,nr 0 12)]
theorem zMT (t:Tmp):zTu.mu t=List.contains (α:=Nat) [] t:=(rfl)
theorem zig:zd Tryz.prog zTu Tryz.f103=true:=by kernel_rfl
def zP3:Cfg:=zI [7] []
theorem zih (t:Tmp):zP3.mu t=List.contains (α:=Nat) [7] t:=(rfl)
theorem zed:zd Tryz.prog zP3 Tryz.f109=true:=by kernel_rfl
def zP4:Cfg:=zI [] []
theorem zii (t:Tmp):zP4.mu t=List.contains (α:=Nat) [] t:=(rfl)
theorem zee:zd Tryz.prog zP4 Tryz.f115=true:=by kernel_rfl
def zP5:Cfg:=zI [] []
theorem zef (t:Tmp):zP5.mu t=List.contains (α:=Nat) [] t:=(rfl)
theorem zeg:zd Tryz.prog zP5 Tryz.f121=true:=by kernel_rfl
def zTv:Cfg:=zI [] []
theorem zGd (t:Tmp):zTv.mu t=List.contains (α:=Nat) [] t:=(rfl)
theorem zij:zd Tryz.prog zTv Tryz.f127=true:=by kernel_rfl
def zYd:Cfg:=zI [] []
theorem zik:zd Tryz.prog zYd Tryz.f135=true:=by kernel_rfl
def zP6:Cfg:=zI [] []
theorem zeh (t:Tmp):zP6.mu t=List.contains (α:=Nat) [] t:=(rfl)
theorem zei:zd Tryz.prog zP6 Tryz.f147=true:=by kernel_rfl
def zP7:Cfg:=zI [] [(4,nr 0 10)]
theorem zOJ (t:Tmp):zP7.mu t=List.contains (α:=Nat) [] t:=(rfl)
theorem zej:zd Tryz.prog zP7 Tryz.f153=true:=by kernel_rfl
def zJb:Cfg:=zI [] [(3,[(0, .no),(4, .no),(8, .no)]++nr 1 3++nr 5 3++nr 9 9),(4,nr 0 4++ [(7, .no)]++nr 4 3++nr 8 6)]
theorem zFk (t:Tmp):zJb.mu t=List.contains (α:=Nat) [] t:=(rfl)
theorem zek:zd Tryz.prog zJb Tryz.f159=true:=by kernel_rfl
def zTw:Cfg:=zI [] []
theorem zel:zd Tryz.prog zTw Tryz.f165=true:=by kernel_rfl
def zP8:Cfg:=zI [] []
theorem zMU (t:Tmp):zP8.mu t=List.contains (α:=Nat) [] t:=(rfl)
theorem zem:zd Tryz.prog zP8 Tryz.f171=true:=by kernel_rfl
def zTx:Cfg:=zI [] [(6,nr 0 10),(11,nr 0 10)]
theorem zEy (t:Tmp):zTx.mu t=List.contains (α:=Nat) [] t:=(rfl)
theorem zil:zd Tryz.prog zTx Tryz.f177=true:=by kernel_rfl
def zTy:Cfg:=zI [] []
theorem zMV (t:Tmp):zTy.mu t=List.contains (α:=Nat) [] t:=(rfl)
theorem zim:zd Tryz.prog zTy Tryz.f183=true:=by kernel_rfl
def zP9:Cfg:=zI [] []
theorem zin (t:Tmp):zP9.mu t=List.contains (α:=Nat) [] t:=(rfl)
theorem zen:zd Tryz.prog zP9 Tryz.f203=true:=by kernel_rfl
def zTz:Cfg:=zI [] []
theorem zio (t:Tmp):zTz.mu t=List.contains (α:=Nat) [] t:=(rfl)
theorem ziq:zd Tryz.prog zTz Tryz.f209=true:=by kernel_rfl
def zYe:Cfg:=zI [] []
theorem zir:zd Tryz.prog zYe Tryz.f252=true:=by kernel_rfl
def zT0:Cfg:=zI [] []
theorem zT1 (t:Tmp):zT0.mu t=List.contains (α:=Nat) [] t:=(rfl)
theorem zis:zd Tryz.prog zT0 Tryz.f261=true:=by kernel_rfl
def zT2:Cfg:=zI [] [(4,nr 0 9++ [(15, .no)]++nr 9 6++nr 16 4)]
theorem zWg (t:Tmp):zT2.mu t=List.contains (α:=Nat) [] t:=(rfl)
theorem zit:zd Tryz.prog zT2 Tryz.f316=true:=by kernel_rfl
def zT3:Cfg:=zI [] []
theorem ziu (t:Tmp):zT3.mu t=List.contains (α:=Nat) [] t:=(rfl)
theorem ziv:zd Tryz.prog zT3 Tryz.f340=true:=by kernel_rfl
def zkn:Cfg:=zI [] [(9,nr 0 51++ [(52, .no),(53, .no),(51, .no)]++nr 54 5++ [(60, .no),(59, .no)]++nr 61 7)]
theorem ok8:zd Tryz.prog zkn Tryz.f8=true:=by kernel_rfl
def zWh:Cfg:=zI [] []
theorem zge (t:Tmp):zWh.mu t=List.contains (α:=Nat) [] t:=(rfl)
theorem zko:zd Tryz.prog zWh Tryz.f14=true:=by kernel_rfl
def zeo:Cfg:=zI [] [(6,nr 0 9)]
theorem zlq:zd Tryz.prog zeo Tryz.f20=true:=by kernel_rfl
def zaP:Cfg:=zI [] []
theorem zlr (t:Tmp):zaP.mu t=List.contains (α:=Nat) [] t:=(rfl)
theorem zls:zd Tryz.prog zaP Tryz.f32=true:=by kernel_rfl
def zWi:Cfg:=zI [16] [(6,nr 0 17),(11,[(0, .no),(1, .st)]++nr 2 12),(16,nr 0 20)]
theorem zNa (t:Tmp):zWi.mu t=List.contains (α:=Nat) [16] t:=(rfl)
theorem zkp:zd Tryz.prog zWi Tryz.f38=true:=by kernel_rfl
def zep:Cfg:=zI [] []
theorem zlt:zd Tryz.prog zep Tryz.f44=true:=by kernel_rfl
def zWj:Cfg:=zI [] []
theorem zeq (t:Tmp):zWj.mu t=List.contains (α:=Nat) [] t:=(rfl)
theorem zkq:zd Tryz.prog zWj Tryz.f50=true:=by kernel_rfl
def zer:Cfg:=zI [] []
theorem zlu:zd Tryz.prog zer Tryz.f56=true:=by kernel_rfl
def zes:Cfg:=zI [] []
theorem zlv:zd Tryz.prog zes Tryz.f62=true:=by kernel_rfl
def zWk:Cfg:=zI [] []
theorem zWl (t:Tmp):zWk.mu t=List.contains (α:=Nat) [] t:=(rfl)
theorem zkr:zd Tryz.prog zWk Tryz.f68=true:=by kernel_rfl
def zWm:Cfg:=zI [] []
theorem zlw (t:Tmp):zWm.mu t=List.contains (α:=Nat) [] t:=(rfl)
theorem zks:zd Tryz.prog zWm Tryz.f74=true:=by kernel_rfl
def zWn:Cfg:=zI [] []
theorem zKo (t:Tmp):zWn.mu t=List.contains (α:=Nat) [] t:=(rfl)
theorem zlx:zd Tryz.prog zWn Tryz.f80=true:=by kernel_rfl
def zet:Cfg:=zI [] [(7,nr 0 12),(9,nr 0 17),(11,nr 0 21)]
theorem zly:zd Tryz.prog zet Tryz.f86=true:=by kernel_rfl
def zeu:Cfg:=zI [] []
theorem zlz:zd Tryz.prog zeu Tryz.f92=true:=by kernel_rfl
def zWo:Cfg:=zI [] []
theorem zgf (t:Tmp):zWo.mu t=List.contains (α:=Nat) [] t:=(rfl)
theorem zkt:zd Tryz.prog zWo Tryz.f98=true:=by kernel_rfl
def zQA:Cfg:=zI [] []
theorem zT4 (t:Tmp):zQA.mu t=List.contains (α:=Nat) [] t:=(rfl)
theorem zev:zd Tryz.prog zQA Tryz.f104=true:=by kernel_rfl
def zYf:Cfg:=zI [] []
theorem ziw:zd Tryz.prog zYf Tryz.f110=true:=by kernel_rfl
def zQB:Cfg:=zI [] []
theorem zT5 (t:Tmp):zQB.mu t=List.contains (α:=Nat) [] t:=(rfl)
theorem zew:zd Tryz.prog zQB Tryz.f116=true:=by kernel_rfl
def zT6:Cfg:=zI [44] []
theorem zHq (t:Tmp):zT6.mu t=List.contains (α:=Nat) [44] t:=(rfl)
theorem zix:zd Tryz.prog zT6 Tryz.f122=true:=by kernel_rfl
def zQC:Cfg:=zI [] []
theorem zMW (t:Tmp):zQC.mu t=List.contains (α:=Nat) [] t:=(rfl)
theorem zex:zd Tryz.prog zQC Tryz.f128=true:=by kernel_rfl
def zYg:Cfg:=zI [] []
theorem ziy:zd Tryz.prog zYg Tryz.f136=true:=by kernel_rfl
def zYh:Cfg:=zI [] [(4,nr 0 17),(6,nr 0 18)]
theorem ziz:zd Tryz.prog zYh Tryz.f142=true:=by kernel_rfl
def zQD:Cfg:=zI [] []
theorem zey (t:Tmp):zQD.mu t=List.contains (α:=Nat) [] t:=(rfl)
theorem zez:zd Tryz.prog zQD Tryz.f148=true:=by kernel_rfl
def zT7:Cfg:=zI [] [(11,nr 0 19)]
theorem zFl (t:Tmp):zT7.mu t=List.contains (α:=Nat) [] t:=(rfl)
theorem zi0:zd Tryz.prog zT7 Tryz.f154=true:=by kernel_rfl
def zMX:Cfg:=zI [] []
theorem zT8 (t:Tmp):zMX.mu t=List.contains (α:=Nat) [] t:=(rfl)
theorem ze0:zd Tryz.prog zMX Tryz.f160=true:=by kernel_rfl
def zT9:Cfg:=zI [] []
theorem ze1:zd Tryz.prog zT9 Tryz.f166=true:=by kernel_rfl
def zQE:Cfg:=zI [] []
theorem ze2 (t:Tmp):zQE.mu t=List.contains (α:=Nat) [] t:=(rfl)
theorem ze3:zd Tryz.prog zQE Tryz.f172=true:=by kernel_rfl
def zUA:Cfg:=zI [] []
theorem zUB (t:Tmp):zUA.mu t=List.contains (α:=Nat) [] t:=(rfl)
theorem zi1:zd Tryz.prog zUA Tryz.f198=true:=by kernel_rfl
def zQF:Cfg:=zI [] []
theorem zi2 (t:Tmp):zQF.mu t=List.contains (α:=Nat) [] t:=(rfl)
theorem ze4:zd Tryz.prog zQF Tryz.f204=true:=by kernel_rfl
def zYi:Cfg:=zI [] [(4,nr 0 15),(6,nr 0 18)]
theorem zi3:zd Tryz.prog zYi Tryz.f210=true:=by kernel_rfl
def zYj:Cfg:=zI [] []
theorem zi4:zd Tryz.prog zYj Tryz.f216=true:=by kernel_rfl
def zUC:Cfg:=zI [] []
theorem ze5:zd Tryz.prog zUC Tryz.f229=true:=by kernel_rfl
def zUD:Cfg:=zI [] []
theorem zOK (t:Tmp):zUD.mu t=List.contains (α:=Nat) [] t:=(rfl)
theorem zi5:zd Tryz.prog zUD Tryz.f235=true:=by kernel_rfl
def zJc:Cfg:=zI [] [(4,[(0, .no),(4, .no)]++nr 1 3++nr 5 6)]
theorem zFm (t:Tmp):zJc.mu t=List.contains (α:=Nat) [] t:=(rfl)
theorem ze6:zd Tryz.prog zJc Tryz.f262=true:=by kernel_rfl
def zUE:Cfg:=zI [] []
theorem ze7:zd Tryz.prog zUE Tryz.f275=true:=by kernel_rfl
def zUF:Cfg:=zI [] []
theorem zUG (t:Tmp):zUF.mu t=List.contains (α:=Nat) [] t:=(rfl)
theorem zi6:zd Tryz.prog zUF Tryz.f299=true:=by kernel_rfl
def zQG:Cfg:=zI [] []
theorem zi7 (t:Tmp):zQG.mu t=List.contains (α:=Nat) [] t:=(rfl)
theorem ze8:zd Tryz.prog zQG Tryz.f317=true:=by kernel_rfl
def zQH:Cfg:=zI [] [(4,nr 0 6)]
theorem zOL (t:Tmp):zQH.mu t=List.contains (α:=Nat) [] t:=(rfl)
theorem ze9:zd Tryz.prog zQH Tryz.f341=true:=by kernel_rfl
set_option maxRecDepth 100000
def tab:List (Nat× (Func×Cfg)):=[(8,(Tryz.f8,zkn)),(11,(Tryz.f11,zWN)),(12,(Tryz.f12,zeH)),(13,(Tryz.f13,zWb)),(14,(Tryz.f14,zWh)),(17,(Tryz.f17,zd2)),(18,(Tryz.f18,zeI)),(20,(Tryz.f20,zeo)),(22,(Tryz.f22,zdj)),(24,(Tryz.f24,zWU)),(27,(Tryz.f27,zV9)),(29,(Tryz.f29,zaA)),(33,(Tryz.f33,zdY)),(36,(Tryz.f36,zWW)),(37,(Tryz.f37,zWc)),(38,(Tryz.f38,zWi)),(39,(Tryz.f39,zWA)),(40,(Tryz.f40,zWH)),(41,(Tryz.f41,zd3)),(42,(Tryz.f42,zTk)),(44,(Tryz.f44,zep)),(45,(Tryz.f45,zWB)),(46,(Tryz.f46,zdk)),(47,(Tryz.f47,zWO)),(48,(Tryz.f48,zWX)),(49,(Tryz.f49,zaM)),(50,(Tryz.f50,zWj)),(53,(Tryz.f53,zaD)),(54,(Tryz.f54,zeJ)),(55,(Tryz.f55,zeb)),(56,(Tryz.f56,zer)),(57,(Tryz.f57,zWD)),(58,(Tryz.f58,zdm)),(60,(Tryz.f60,zeK)),(62,(Tryz.f62,zes)),(64,(Tryz.f64,zWI)),(68,(Tryz.f68,zWk)),(69,(Tryz.f69,zWE)),(70,(Tryz.f70,zWJ)),(71,(Tryz.f71,zWP)),(72,(Tryz.f72,zWY)),(73,(Tryz.f73,zWd)),(74,(Tryz.f74,zWm)),(75,(Tryz.f75,zWF)),(76,(Tryz.f76,zWK)),(77,(Tryz.f77,zWQ)),(78,(Tryz.f78,zTl)),(79,(Tryz.f79,zRQ)),(82,(Tryz.f82,zWL)),(83,(Tryz.f83,zWR)),(84,(Tryz.f84,zeL)),(85,(Tryz.f85,zec)),(86,(Tryz.f86,zet)),(88,(Tryz.f88,zdn)),(90,(Tryz.f90,zeM)),(91,(Tryz.f91,zWe)),(92,(Tryz.f92,zeu)),(93,(Tryz.f93,zdZ)),(94,(Tryz.f94,zZ9)),(95,(Tryz.f95,zaF)),(96,(Tryz.f96,zeN)),(97,(Tryz.f97,zWf)),(98,(Tryz.f98,zWo)),(100,(Tryz.f100,zPe)),(104,(Tryz.f104,zQA)),(105,(Tryz.f105,zPb)),(106,(Tryz.f106,zPf)),(107,(Tryz.f107,zPm)),(108,(Tryz.f108,zPu)),(109,(Tryz.f109,zP3)),(110,(Tryz.f110,zYf)),(111,(Tryz.f111,zPc)),(112,(Tryz.f112,zPg)),(113,(Tryz.f113,zMR)),(114,(Tryz.f114,zPv)),(115,(Tryz.f115,zP4)),(116,(Tryz.f116,zQB)),(117,(Tryz.f117,zTD)),(118,(Tryz.f118,zPh)),(119,(Tryz.f119,zMS)),(120,(Tryz.f120,zPw)),(121,(Tryz.f121,zP5)),(128,(Tryz.f128,zQC)),(130,(Tryz.f130,zYR)),(132,(Tryz.f132,zTS)),(133,(Tryz.f133,zYX)),(134,(Tryz.f134,zYb)),(135,(Tryz.f135,zYd)),(136,(Tryz.f136,zYg)),(137,(Tryz.f137,zYS)),(138,(Tryz.f138,zYV)),(140,(Tryz.f140,zYc)),(142,(Tryz.f142,zYh)),(144,(Tryz.f144,zTT)),(145,(Tryz.f145,zYY)),(147,(Tryz.f147,zP6)),(148,(Tryz.f148,zQD)),(151,(Tryz.f151,zPn)),(153,(Tryz.f153,zP7)),(155,(Tryz.f155,zMM)),(156,(Tryz.f156,zMO)),(157,(Tryz.f157,zJZ)),(158,(Tryz.f158,zJa)),(159,(Tryz.f159,zJb)),(160,(Tryz.f160,zMX)),(161,(Tryz.f161,zYT)),(162,(Tryz.f162,zYW)),(163,(Tryz.f163,zPo)),(164,(Tryz.f164,zPx)),(165,(Tryz.f165,zTw)),(166,(Tryz.f166,zT9)),(167,(Tryz.f167,zTG)),(168,(Tryz.f168,zMP)),(169,(Tryz.f169,zPp)),(170,(Tryz.f170,zPy)),(171,(Tryz.f171,zP8)),(172,(Tryz.f172,zQE)),(190,(Tryz.f190,zYU)),(200,(Tryz.f200,zPi)),(201,(Tryz.f201,zPq)),(203,(Tryz.f203,zP9)),(204,(Tryz.f204,zQF)),(206,(Tryz.f206,zPj)),(207,(Tryz.f207,zPr)),(208,(Tryz.f208,zP0)),(210,(Tryz.f210,zYi)),(216,(Tryz.f216,zYj)),(220,(Tryz.f220,zYZ)),(221,(Tryz.f221,zP1)),(229,(Tryz.f229,zUC)),(230,(Tryz.f230,zTL)),(231,(Tryz.f231,zPk)),(252,(Tryz.f252,zYe)),(262,(Tryz.f262,zJc)),(263,(Tryz.f263,zPd)),(264,(Tryz.f264,zPl)),(265,(Tryz.f265,zPs)),(266,(Tryz.f266,zP2)),(275,(Tryz.f275,zUE)),(317,(Tryz.f317,zQG)),(320,(Tryz.f320,zTh)),(341,(Tryz.f341,zQH))]
theorem qA:zFe Tryz.prog tab:=⟨⟨Tryz.func8,ok8⟩,⟨Tryz.func11,zkR⟩,⟨Tryz.func12,zlY⟩,⟨Tryz.func13,zkg⟩,⟨Tryz.func14,zko⟩,⟨Tryz.func17,zlS⟩,⟨Tryz.func18,zlZ⟩,⟨Tryz.func20,zlq⟩,⟨Tryz.func22,zlL⟩,⟨Tryz.func24,zkZ⟩,⟨Tryz.func27,zj9⟩,⟨Tryz.func29,zkS⟩,⟨Tryz.func33,zlD⟩,⟨Tryz.func36,zka⟩,⟨Tryz.func37,zkh⟩,⟨Tryz.func38,zkp⟩,⟨Tryz.func39,zkA⟩,⟨Tryz.func40,zkK⟩,⟨Tryz.func41,zlU⟩,⟨Tryz.func42,zkb⟩,⟨Tryz.func44,zlt⟩,⟨Tryz.func45,zkB⟩,⟨Tryz.func46,zlN⟩,⟨Tryz.func47,zkT⟩,⟨Tryz.func48,zkc⟩,⟨Tryz.func49,zki⟩,⟨Tryz.func50,zkq⟩,⟨Tryz.func53,zkU⟩,⟨Tryz.func54,zlb⟩,⟨Tryz.func55,zlj⟩,⟨Tryz.func56,zlu⟩,⟨Tryz.func57,zkE⟩,⟨Tryz.func58,zlP⟩,⟨Tryz.func60,zlc⟩,⟨Tryz.func62,zlv⟩,⟨Tryz.func64,zkL⟩,⟨Tryz.func68,zkr⟩,⟨Tryz.func69,zkG⟩,⟨Tryz.func70,zkM⟩,⟨Tryz.func71,zkV⟩,⟨Tryz.func72,zke⟩,⟨Tryz.func73,zkk⟩,⟨Tryz.func74,zks⟩,⟨Tryz.func75,zkH⟩,⟨Tryz.func76,zkO⟩,⟨Tryz.func77,zkW⟩,⟨Tryz.func78,zkf⟩,⟨Tryz.func79,zgd⟩,⟨Tryz.func82,zkP⟩,⟨Tryz.func83,zkX⟩,⟨Tryz.func84,zle⟩,⟨Tryz.func85,zlo⟩,⟨Tryz.func86,zly⟩,⟨Tryz.func88,zlR⟩,⟨Tryz.func90,zlf⟩,⟨Tryz.func91,zkl⟩,⟨Tryz.func92,zlz⟩,⟨Tryz.func93,zlI⟩,⟨Tryz.func94,zkQ⟩,⟨Tryz.func95,zkY⟩,⟨Tryz.func96,zlg⟩,⟨Tryz.func97,zkm⟩,⟨Tryz.func98,zkt⟩,⟨Tryz.func100,zdo⟩,⟨Tryz.func104,zev⟩,⟨Tryz.func105,zda⟩,⟨Tryz.func106,zdp⟩,⟨Tryz.func107,zd5⟩,⟨Tryz.func108,zeP⟩,⟨Tryz.func109,zed⟩,⟨Tryz.func110,ziw⟩,⟨Tryz.func111,zdb⟩,⟨Tryz.func112,zdq⟩,⟨Tryz.func113,zaG⟩,⟨Tryz.func114,zeQ⟩,⟨Tryz.func115,zee⟩,⟨Tryz.func116,zew⟩,⟨Tryz.func117,zdc⟩,⟨Tryz.func118,zdr⟩,⟨Tryz.func119,zd6⟩,⟨Tryz.func120,zeR⟩,⟨Tryz.func121,zeg⟩,⟨Tryz.func128,zex⟩,⟨Tryz.func130,zhg⟩,⟨Tryz.func132,zds⟩,⟨Tryz.func133,ziD⟩,⟨Tryz.func134,ziS⟩,⟨Tryz.func135,zik⟩,⟨Tryz.func136,ziy⟩,⟨Tryz.func137,zhh⟩,⟨Tryz.func138,zhy⟩,⟨Tryz.func140,ziT⟩,⟨Tryz.func142,ziz⟩,⟨Tryz.func144,zdt⟩,⟨Tryz.func145,ziE⟩,⟨Tryz.func147,zei⟩,⟨Tryz.func148,zez⟩,⟨Tryz.func151,zd8⟩,⟨Tryz.func153,zej⟩,⟨Tryz.func155,zde⟩,⟨Tryz.func156,zdu⟩,⟨Tryz.func157,zd9⟩,⟨Tryz.func158,zeS⟩,⟨Tryz.func159,zek⟩,⟨Tryz.func160,ze0⟩,⟨Tryz.func161,zhk⟩,⟨Tryz.func162,zh1⟩,⟨Tryz.func163,zeA⟩,⟨Tryz.func164,zeT⟩,⟨Tryz.func165,zel⟩,⟨Tryz.func166,ze1⟩,⟨Tryz.func167,zdf⟩,⟨Tryz.func168,zdv⟩,⟨Tryz.func169,zeB⟩,⟨Tryz.func170,zeU⟩,⟨Tryz.func171,zem⟩,⟨Tryz.func172,ze3⟩,⟨Tryz.func190,zhn⟩,⟨Tryz.func200,zdw⟩,⟨Tryz.func201,zeD⟩,⟨Tryz.func203,zen⟩,⟨Tryz.func204,ze4⟩,⟨Tryz.func206,zdx⟩,⟨Tryz.func207,zeE⟩,⟨Tryz.func208,zeX⟩,⟨Tryz.func210,zi3⟩,⟨Tryz.func216,zi4⟩,⟨Tryz.func220,ziK⟩,⟨Tryz.func221,zeY⟩,⟨Tryz.func229,ze5⟩,⟨Tryz.func230,zdh⟩,⟨Tryz.func231,zdz⟩,⟨Tryz.func252,zir⟩,⟨Tryz.func262,ze6⟩,⟨Tryz.func263,zdi⟩,⟨Tryz.func264,zd1⟩,⟨Tryz.func265,zeF⟩,⟨Tryz.func266,zea⟩,⟨Tryz.func275,ze7⟩,⟨Tryz.func317,ze8⟩,⟨Tryz.func320,zeG⟩,⟨Tryz.func341,ze9⟩,trivial⟩
theorem mix:Tryz.prog.follows .mixedOrders=true:=by kernel_rfl
end Go.V
end
