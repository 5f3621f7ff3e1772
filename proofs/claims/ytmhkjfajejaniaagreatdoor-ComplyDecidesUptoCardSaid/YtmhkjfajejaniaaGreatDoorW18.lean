/- How functions of this program are read by the machine, part 1. No condition. -/
import Derived.Test.YtmhkjfajejaniaaGreatDoorW04
import Derived.KernelRfl
import Derived.Test.YtmhkjfajejaniaaGreatDoorProg
set_option linter.all false
noncomputable section
namespace Go.V
open Go.Proofs
def zg6:Cfg:=zH [] []
theorem mu9 (t:Tmp):zg6.mu t=List.contains (α:=Nat) [] t:=(rfl)
theorem ok9:zd Tryz.prog zg6 Tryz.f9=true:=by kernel_rfl
def zVm:Cfg:=zH [] []
theorem zkd (t:Tmp):zVm.mu t=List.contains (α:=Nat) [] t:=(rfl)
theorem zja:zd Tryz.prog zVm Tryz.f27=true:=by kernel_rfl
def zcz:Cfg:=zH [17] [(7,nr 0 10)]
theorem zke:zd Tryz.prog zcz Tryz.f33=true:=by kernel_rfl
def zVn:Cfg:=zH [] []
theorem zKo (t:Tmp):zVn.mu t=List.contains (α:=Nat) [] t:=(rfl)
theorem zjb:zd Tryz.prog zVn Tryz.f39=true:=by kernel_rfl
def zVo:Cfg:=zH [] []
theorem zkf (t:Tmp):zVo.mu t=List.contains (α:=Nat) [] t:=(rfl)
theorem zjc:zd Tryz.prog zVo Tryz.f45=true:=by kernel_rfl
def zVp:Cfg:=zH [] []
theorem zg7 (t:Tmp):zVp.mu t=List.contains (α:=Nat) [] t:=(rfl)
theorem zjd:zd Tryz.prog zVp Tryz.f57=true:=by kernel_rfl
def zZc:Cfg:=zH [] [(1,nr 0 4++ [(5, .no),(6, .st),(7, .no),(8, .st),(4, .no)]++nr 9 4)]
theorem zje (t:Tmp):zZc.mu t=List.contains (α:=Nat) [] t:=(rfl)
theorem zkg:zd Tryz.prog zZc Tryz.f63=true:=by kernel_rfl
def zVq:Cfg:=zH [7] []
theorem zkh (t:Tmp):zVq.mu t=List.contains (α:=Nat) [7] t:=(rfl)
theorem zjf:zd Tryz.prog zVq Tryz.f69=true:=by kernel_rfl
def zVr:Cfg:=zH [] []
theorem zki (t:Tmp):zVr.mu t=List.contains (α:=Nat) [] t:=(rfl)
theorem zjg:zd Tryz.prog zVr Tryz.f75=true:=by kernel_rfl
def zc0:Cfg:=zH [] []
theorem zkj:zd Tryz.prog zc0 Tryz.f93=true:=by kernel_rfl
def zZd:Cfg:=zH [] [(9,nr 0 25)]
theorem zf4 (t:Tmp):zZd.mu t=List.contains (α:=Nat) [] t:=(rfl)
theorem zkk:zd Tryz.prog zZd Tryz.f99=true:=by kernel_rfl
def zPS:Cfg:=zH [] []
theorem zSs (t:Tmp):zPS.mu t=List.contains (α:=Nat) [] t:=(rfl)
theorem zc1:zd Tryz.prog zPS Tryz.f105=true:=by kernel_rfl
def zPT:Cfg:=zH [] [(6,nr 0 10),(11,nr 0 10)]
theorem zEz (t:Tmp):zPT.mu t=List.contains (α:=Nat) [] t:=(rfl)
theorem zc2:zd Tryz.prog zPT Tryz.f111=true:=by kernel_rfl
def zSt:Cfg:=zH [] []
theorem zc3:zd Tryz.prog zSt Tryz.f117=true:=by kernel_rfl
def zSu:Cfg:=zH [] []
theorem zc4 (t:Tmp):zSu.mu t=List.contains (α:=Nat) [] t:=(rfl)
theorem zg8:zd Tryz.prog zSu Tryz.f123=true:=by kernel_rfl
def zX8:Cfg:=zH [] []
theorem zg9:zd Tryz.prog zX8 Tryz.f130=true:=by kernel_rfl
def zX9:Cfg:=zH [] []
theorem zhA:zd Tryz.prog zX9 Tryz.f137=true:=by kernel_rfl
def zSv:Cfg:=zH [] []
theorem zhB (t:Tmp):zSv.mu t=List.contains (α:=Nat) [] t:=(rfl)
theorem zhC:zd Tryz.prog zSv Tryz.f149=true:=by kernel_rfl
def zMG:Cfg:=zH [] []
theorem zQ7 (t:Tmp):zMG.mu t=List.contains (α:=Nat) [] t:=(rfl)
theorem zc5:zd Tryz.prog zMG Tryz.f155=true:=by kernel_rfl
def zYA:Cfg:=zH [] [(17,nr 0 15)]
theorem zhD:zd Tryz.prog zYA Tryz.f161=true:=by kernel_rfl
def zSw:Cfg:=zH [] []
theorem zc6:zd Tryz.prog zSw Tryz.f167=true:=by kernel_rfl
def zSx:Cfg:=zH [] []
theorem zhE (t:Tmp):zSx.mu t=List.contains (α:=Nat) [] t:=(rfl)
theorem zhF:zd Tryz.prog zSx Tryz.f179=true:=by kernel_rfl
def zYB:Cfg:=zH [] []
theorem zhG:zd Tryz.prog zYB Tryz.f190=true:=by kernel_rfl
def zSy:Cfg:=zH [] [(3,[(2, .no),(0, .no),(1, .st)]++nr 3 6)]
theorem zSz (t:Tmp):zSy.mu t=List.contains (α:=Nat) [] t:=(rfl)
theorem zhH:zd Tryz.prog zSy Tryz.f199=true:=by kernel_rfl
def zS0:Cfg:=zH [] [(1,[(2, .no),(0, .no),(1, .no)]++nr 3 10)]
theorem zc7 (t:Tmp):zS0.mu t=List.contains (α:=Nat) [] t:=(rfl)
theorem zhI:zd Tryz.prog zS0 Tryz.f205=true:=by kernel_rfl
def zS1:Cfg:=zH [] []
theorem zc8:zd Tryz.prog zS1 Tryz.f230=true:=by kernel_rfl
def zS2:Cfg:=zH [] []
theorem zhJ (t:Tmp):zS2.mu t=List.contains (α:=Nat) [] t:=(rfl)
theorem zhK:zd Tryz.prog zS2 Tryz.f236=true:=by kernel_rfl
def zPU:Cfg:=zH [] []
theorem zhL (t:Tmp):zPU.mu t=List.contains (α:=Nat) [] t:=(rfl)
theorem zc9:zd Tryz.prog zPU Tryz.f263=true:=by kernel_rfl
def zS3:Cfg:=zH [] [(4,nr 0 6)]
theorem zN9 (t:Tmp):zS3.mu t=List.contains (α:=Nat) [] t:=(rfl)
theorem zhM:zd Tryz.prog zS3 Tryz.f300=true:=by kernel_rfl
def zS4:Cfg:=zH [] []
theorem zS5 (t:Tmp):zS4.mu t=List.contains (α:=Nat) [] t:=(rfl)
theorem zhN:zd Tryz.prog zS4 Tryz.f336=true:=by kernel_rfl
def zhO:Cfg:=zH [] [(8,[(0, .st),(1, .st)]++nr 2 4++ [(6, .st)]++nr 7 6),(9,[(0, .no),(1, .st),(3, .no),(4, .st),(2, .st),(5, .st)]++nr 6 3)]
theorem mu4 (t:Tmp):zhO.mu t=List.contains (α:=Nat) [] t:=(rfl)
def zZe:Cfg:=zH [] []
theorem zhP (t:Tmp):zZe.mu t=List.contains (α:=Nat) [] t:=(rfl)
theorem zkl:zd Tryz.prog zZe Tryz.f10=true:=by kernel_rfl
def zdA:Cfg:=zH [7] []
theorem zkm:zd Tryz.prog zdA Tryz.f22=true:=by kernel_rfl
def zZf:Cfg:=zH [] [(7,nr 0 14),(14,[(1, .no),(0, .no)]++nr 2 8)]
theorem zLa (t:Tmp):zZf.mu t=List.contains (α:=Nat) [] t:=(rfl)
theorem zkn:zd Tryz.prog zZf Tryz.f34=true:=by kernel_rfl
def zVs:Cfg:=zH [] [(10,nr 0 11),(16,nr 0 8)]
theorem zS6 (t:Tmp):zVs.mu t=List.contains (α:=Nat) [] t:=(rfl)
theorem zjh:zd Tryz.prog zVs Tryz.f40=true:=by kernel_rfl
def zVt:Cfg:=zH [] []
theorem zdB (t:Tmp):zVt.mu t=List.contains (α:=Nat) [] t:=(rfl)
theorem zji:zd Tryz.prog zVt Tryz.f46=true:=by kernel_rfl
def zdC:Cfg:=zH [] []
theorem zko:zd Tryz.prog zdC Tryz.f58=true:=by kernel_rfl
def zVu:Cfg:=zH [] []
theorem zKp (t:Tmp):zVu.mu t=List.contains (α:=Nat) [] t:=(rfl)
theorem zjj:zd Tryz.prog zVu Tryz.f64=true:=by kernel_rfl
def zVv:Cfg:=zH [] []
theorem zkp (t:Tmp):zVv.mu t=List.contains (α:=Nat) [] t:=(rfl)
theorem zjk:zd Tryz.prog zVv Tryz.f70=true:=by kernel_rfl
def zVw:Cfg:=zH [] [(1,nr 0 4++ [(5, .no),(6, .st),(7, .no),(8, .st),(4, .no)]++nr 9 4)]
theorem zjl (t:Tmp):zVw.mu t=List.contains (α:=Nat) [] t:=(rfl)
theorem zjm:zd Tryz.prog zVw Tryz.f76=true:=by kernel_rfl
def zVx:Cfg:=zH [] []
theorem zQ8 (t:Tmp):zVx.mu t=List.contains (α:=Nat) [] t:=(rfl)
theorem zjn:zd Tryz.prog zVx Tryz.f82=true:=by kernel_rfl
def zdD:Cfg:=zH [] [(3,[(0, .no),(1, .no),(2, .st),(4, .no),(5, .no),(6, .st),(9, .no),(10, .no),(11, .st),(14, .no),(15, .no),(16, .st),(3, .st),(7, .st),(8, .st),(12, .st),(13, .st),(17, .st)]++nr 18 3),(6,nr 0 7),(7,[(6, .no)]++nr 0 6++nr 7 6)]
theorem zkq:zd Tryz.prog zdD Tryz.f88=true:=by kernel_rfl
def zZg:Cfg:=zH [] []
theorem zjo:zd Tryz.prog zZg Tryz.f94=true:=by kernel_rfl
def zPV:Cfg:=zH [] [(16,nr 0 8++ [(13, .no)]++nr 8 5++nr 14 4)]
theorem zMH (t:Tmp):zPV.mu t=List.contains (α:=Nat) [] t:=(rfl)
theorem zdE:zd Tryz.prog zPV Tryz.f100=true:=by kernel_rfl
def zPW:Cfg:=zH [] []
theorem zGa (t:Tmp):zPW.mu t=List.contains (α:=Nat) [] t:=(rfl)
theorem zdF:zd Tryz.prog zPW Tryz.f106=true:=by kernel_rfl
def zPX:Cfg:=zH [] []
theorem zhQ (t:Tmp):zPX.mu t=List.contains (α:=Nat) [] t:=(rfl)
theorem zdG:zd Tryz.prog zPX Tryz.f112=true:=by kernel_rfl
def zPY:Cfg:=zH [] []
theorem zVy (t:Tmp):zPY.mu t=List.contains (α:=Nat) [] t:=(rfl)
theorem zdH:zd Tryz.prog zPY Tryz.f118=true:=by kernel_rfl
def zS7:Cfg:=zH [24] []
theorem zGb (t:Tmp):zS7.mu t=List.contains (α:=Nat) [24] t:=(rfl)
theorem zhR:zd Tryz.prog zS7 Tryz.f124=true:=by kernel_rfl
def zS8:Cfg:=zH [] []
theorem zdI:zd Tryz.prog zS8 Tryz.f132=true:=by kernel_rfl
def zYC:Cfg:=zH [] [(4,nr 0 17),(6,nr 0 18)]
theorem zhS:zd Tryz.prog zYC Tryz.f138=true:=by kernel_rfl
def zS9:Cfg:=zH [] []
theorem zdJ:zd Tryz.prog zS9 Tryz.f144=true:=by kernel_rfl
def zTA:Cfg:=zH [] []
theorem zhT (t:Tmp):zTA.mu t=List.contains (α:=Nat) [] t:=(rfl)
theorem zhU:zd Tryz.prog zTA Tryz.f150=true:=by kernel_rfl
def zMI:Cfg:=zH [] [(3,[(0, .st),(4, .st),(1, .no),(2, .no),(3, .st),(5, .no),(6, .no),(7, .st),(8, .no),(9, .st),(10, .no),(11, .no),(12, .st),(13, .st)]++nr 14 6)]
theorem zKq (t:Tmp):zMI.mu t=List.contains (α:=Nat) [] t:=(rfl)
theorem zdK:zd Tryz.prog zMI Tryz.f156=true:=by kernel_rfl
def zYD:Cfg:=zH [] []
theorem zhV:zd Tryz.prog zYD Tryz.f162=true:=by kernel_rfl
def zMJ:Cfg:=zH [] []
theorem zTB (t:Tmp):zMJ.mu t=List.contains (α:=Nat) [] t:=(rfl)
theorem zdL:zd Tryz.prog zMJ Tryz.f168=true:=by kernel_rfl
def zTC:Cfg:=zH [] []
theorem zhW (t:Tmp):zTC.mu t=List.contains (α:=Nat) [] t:=(rfl)
theorem zhX:zd Tryz.prog zTC Tryz.f174=true:=by kernel_rfl
def zTD:Cfg:=zH [] []
theorem zhY (t:Tmp):zTD.mu t=List.contains (α:=Nat) [] t:=(rfl)
theorem zhZ:zd Tryz.prog zTD Tryz.f180=true:=by kernel_rfl
def zPZ:Cfg:=zH [] []
theorem zha (t:Tmp):zPZ.mu t=List.contains (α:=Nat) [] t:=(rfl)
theorem zdM:zd Tryz.prog zPZ Tryz.f200=true:=by kernel_rfl
def zPa:Cfg:=zH [] [(7,nr 0 9)]
theorem zIx (t:Tmp):zPa.mu t=List.contains (α:=Nat) [] t:=(rfl)
theorem zdN:zd Tryz.prog zPa Tryz.f206=true:=by kernel_rfl
def zPb:Cfg:=zH [] []
theorem zdO (t:Tmp):zPb.mu t=List.contains (α:=Nat) [] t:=(rfl)
theorem zdP:zd Tryz.prog zPb Tryz.f231=true:=by kernel_rfl
def zTE:Cfg:=zH [] []
theorem zhb (t:Tmp):zTE.mu t=List.contains (α:=Nat) [] t:=(rfl)
theorem zhc:zd Tryz.prog zTE Tryz.f237=true:=by kernel_rfl
def zPc:Cfg:=zH [] [(1,[(2, .no),(6, .no),(0, .no),(1, .no)]++nr 3 3++nr 7 5)]
theorem zdQ (t:Tmp):zPc.mu t=List.contains (α:=Nat) [] t:=(rfl)
theorem zdR:zd Tryz.prog zPc Tryz.f264=true:=by kernel_rfl
def zTF:Cfg:=zH [] [(10,nr 0 14),(15,nr 0 20)]
theorem zHl (t:Tmp):zTF.mu t=List.contains (α:=Nat) [] t:=(rfl)
theorem zhd:zd Tryz.prog zTF Tryz.f313=true:=by kernel_rfl
def zTG:Cfg:=zH [] []
theorem zOA (t:Tmp):zTG.mu t=List.contains (α:=Nat) [] t:=(rfl)
theorem zhe:zd Tryz.prog zTG Tryz.f337=true:=by kernel_rfl
def zVz:Cfg:=zH [] []
theorem zbl (t:Tmp):zVz.mu t=List.contains (α:=Nat) [] t:=(rfl)
theorem zjp:zd Tryz.prog zVz Tryz.f11=true:=by kernel_rfl
def zV0:Cfg:=zH [] []
theorem zdS (t:Tmp):zV0.mu t=List.contains (α:=Nat) [] t:=(rfl)
theorem zjq:zd Tryz.prog zV0 Tryz.f17=true:=by kernel_rfl
def zZh:Cfg:=zH [] []
theorem zkr (t:Tmp):zZh.mu t=List.contains (α:=Nat) [] t:=(rfl)
theorem zks:zd Tryz.prog zZh Tryz.f23=true:=by kernel_rfl
def zZi:Cfg:=zH [] []
theorem zjr:zd Tryz.prog zZi Tryz.f29=true:=by kernel_rfl
def zZj:Cfg:=zH [] []
theorem zf5 (t:Tmp):zZj.mu t=List.contains (α:=Nat) [] t:=(rfl)
theorem zkt:zd Tryz.prog zZj Tryz.f35=true:=by kernel_rfl
def zTH:Cfg:=zH [] []
theorem zf6 (t:Tmp):zTH.mu t=List.contains (α:=Nat) [] t:=(rfl)
theorem zjs:zd Tryz.prog zTH Tryz.f41=true:=by kernel_rfl
def zV1:Cfg:=zH [] []
theorem zZk (t:Tmp):zV1.mu t=List.contains (α:=Nat) [] t:=(rfl)
theorem zjt:zd Tryz.prog zV1 Tryz.f47=true:=by kernel_rfl
def zZl:Cfg:=zH [] []
theorem zju:zd Tryz.prog zZl Tryz.f53=true:=by kernel_rfl
def zZm:Cfg:=zH [] [(7,nr 0 26),(11,nr 0 26),(15,nr 0 18),(23,nr 0 18)]
theorem zHm (t:Tmp):zZm.mu t=List.contains (α:=Nat) [] t:=(rfl)
theorem zku:zd Tryz.prog zZm Tryz.f65=true:=by kernel_rfl
def zV2:Cfg:=zH [] []
theorem zkv (t:Tmp):zV2.mu t=List.contains (α:=Nat) [] t:=(rfl)
theorem zjv:zd Tryz.prog zV2 Tryz.f71=true:=by kernel_rfl
def zV3:Cfg:=zH [] [(20,nr 0 12)]
theorem zQ9 (t:Tmp):zV3.mu t=List.contains (α:=Nat) [] t:=(rfl)
theorem zjw:zd Tryz.prog zV3 Tryz.f77=true:=by kernel_rfl
def zV4:Cfg:=zH [31] []
theorem zkw (t:Tmp):zV4.mu t=List.contains (α:=Nat) [31] t:=(rfl)
theorem zjx:zd Tryz.prog zV4 Tryz.f83=true:=by kernel_rfl
def zZn:Cfg:=zH [] []
theorem zjy:zd Tryz.prog zZn Tryz.f95=true:=by kernel_rfl
def zTI:Cfg:=zH [] [(9,nr 0 9++ [(14, .no)]++nr 9 5++nr 15 4)]
theorem zMK (t:Tmp):zTI.mu t=List.contains (α:=Nat) [] t:=(rfl)
theorem zhf:zd Tryz.prog zTI Tryz.f101=true:=by kernel_rfl
def zPd:Cfg:=zH [] []
theorem zdT (t:Tmp):zPd.mu t=List.contains (α:=Nat) [] t:=(rfl)
theorem zdU:zd Tryz.prog zPd Tryz.f107=true:=by kernel_rfl
def zML:Cfg:=zH [] [(6,nr 0 11),(11,nr 0 12)]
theorem zEE (t:Tmp):zML.mu t=List.contains (α:=Nat) [] t:=(rfl)
theorem zZo:zd Tryz.prog zML Tryz.f113=true:=by kernel_rfl
def zMM:Cfg:=zH [] []
theorem zKr (t:Tmp):zMM.mu t=List.contains (α:=Nat) [] t:=(rfl)
theorem zdV:zd Tryz.prog zMM Tryz.f119=true:=by kernel_rfl
def zTJ:Cfg:=zH [] []
theorem zdW (t:Tmp):zTJ.mu t=List.contains (α:=Nat) [] t:=(rfl)
theorem zhg:zd Tryz.prog zTJ Tryz.f125=true:=by kernel_rfl
def zYE:Cfg:=zH [] [(4,nr 0 5)]
theorem zhh:zd Tryz.prog zYE Tryz.f133=true:=by kernel_rfl
def zYF:Cfg:=zH [] [(4,nr 0 17),(6,nr 0 18)]
theorem zhi:zd Tryz.prog zYF Tryz.f145=true:=by kernel_rfl
def zPe:Cfg:=zH [] []
theorem zhj (t:Tmp):zPe.mu t=List.contains (α:=Nat) [] t:=(rfl)
theorem zdX:zd Tryz.prog zPe Tryz.f151=true:=by kernel_rfl
def zJe:Cfg:=zH [] [(6,nr 0 19)]
theorem zHn (t:Tmp):zJe.mu t=List.contains (α:=Nat) [] t:=(rfl)
theorem zdY:zd Tryz.prog zJe Tryz.f157=true:=by kernel_rfl
def zPf:Cfg:=zH [] [(17,nr 0 17)]
theorem zZp (t:Tmp):zPf.mu t=List.contains (α:=Nat) [] t:=(rfl)
theorem zdZ:zd Tryz.prog zPf Tryz.f163=true:=by kernel_rfl
def zPg:Cfg:=zH [] []
theorem zV5 (t:Tmp):zPg.mu t=List.contains (α:=Nat) [] t:=(rfl)
theorem zda:zd Tryz.prog zPg Tryz.f169=true:=by kernel_rfl
def zTK:Cfg:=zH [] []
theorem zhk (t:Tmp):zTK.mu t=List.contains (α:=Nat) [] t:=(rfl)
theorem zhl:zd Tryz.prog zTK Tryz.f175=true:=by kernel_rfl
def zTL:Cfg:=zH [] []
theorem zdb (t:Tmp):zTL.mu t=List.contains (α:=Nat) [] t:=(rfl)
theorem zhm:zd Tryz.prog zTL Tryz.f181=true:=by kernel_rfl
def zPh:Cfg:=zH [] [(1,nr 0 9),(4,[(4, .no)]++nr 0 4++nr 5 18++ [(25, .no),(23, .no),(24, .no)])]
theorem zGc (t:Tmp):zPh.mu t=List.contains (α:=Nat) [] t:=(rfl)
theorem zdc:zd Tryz.prog zPh Tryz.f201=true:=by kernel_rfl
def zPi:Cfg:=zH [] []
theorem zhn (t:Tmp):zPi.mu t=List.contains (α:=Nat) [] t:=(rfl)
theorem zdd:zd Tryz.prog zPi Tryz.f207=true:=by kernel_rfl
def zYG:Cfg:=zH [] []
theorem zho:zd Tryz.prog zYG Tryz.f220=true:=by kernel_rfl
def zTM:Cfg:=zH [] []
theorem zhp (t:Tmp):zTM.mu t=List.contains (α:=Nat) [] t:=(rfl)
theorem zhq:zd Tryz.prog zTM Tryz.f238=true:=by kernel_rfl
def zPj:Cfg:=zH [] []
theorem zKs (t:Tmp):zPj.mu t=List.contains (α:=Nat) [] t:=(rfl)
theorem zde:zd Tryz.prog zPj Tryz.f265=true:=by kernel_rfl
def zTN:Cfg:=zH [] [(11,nr 0 20),(16,nr 0 12)]
theorem zHo (t:Tmp):zTN.mu t=List.contains (α:=Nat) [] t:=(rfl)
theorem zhr:zd Tryz.prog zTN Tryz.f314=true:=by kernel_rfl
def zTO:Cfg:=zH [] []
theorem zdf:zd Tryz.prog zTO Tryz.f320=true:=by kernel_rfl
def zTP:Cfg:=zH [] []
theorem zV6 (t:Tmp):zTP.mu t=List.contains (α:=Nat) [] t:=(rfl)
theorem zhs:zd Tryz.prog zTP Tryz.f338=true:=by kernel_rfl
def zV7:Cfg:=zH [] []
theorem zdg (t:Tmp):zV7.mu t=List.contains (α:=Nat) [] t:=(rfl)
theorem zjz:zd Tryz.prog zV7 Tryz.f12=true:=by kernel_rfl
def zV8:Cfg:=zH [] []
theorem zkx (t:Tmp):zV8.mu t=List.contains (α:=Nat) [] t:=(rfl)
theorem zj0:zd Tryz.prog zV8 Tryz.f18=true:=by kernel_rfl
def zV9:Cfg:=zH [] []
theorem zTQ (t:Tmp):zV9.mu t=List.contains (α:=Nat) [] t:=(rfl)
theorem zj1:zd Tryz.prog zV9 Tryz.f24=true:=by kernel_rfl
def zWA:Cfg:=zH [] []
theorem zf7 (t:Tmp):zWA.mu t=List.contains (α:=Nat) [] t:=(rfl)
theorem zj2:zd Tryz.prog zWA Tryz.f36=true:=by kernel_rfl
def zdh:Cfg:=zH [] []
theorem zky:zd Tryz.prog zdh Tryz.f42=true:=by kernel_rfl
def zWB:Cfg:=zH [] []
theorem zht (t:Tmp):zWB.mu t=List.contains (α:=Nat) [] t:=(rfl)
theorem zj3:zd Tryz.prog zWB Tryz.f48=true:=by kernel_rfl
def zdi:Cfg:=zH [] []
theorem zkz:zd Tryz.prog zdi Tryz.f54=true:=by kernel_rfl
def zdj:Cfg:=zH [] []
theorem zk0:zd Tryz.prog zdj Tryz.f60=true:=by kernel_rfl
def zZq:Cfg:=zH [] []
theorem zj4 (t:Tmp):zZq.mu t=List.contains (α:=Nat) [] t:=(rfl)
theorem zk1:zd Tryz.prog zZq Tryz.f66=true:=by kernel_rfl
def zWC:Cfg:=zH [] [(6,nr 0 9)]
theorem zYH (t:Tmp):zWC.mu t=List.contains (α:=Nat) [] t:=(rfl)
theorem zj5:zd Tryz.prog zWC Tryz.f72=true:=by kernel_rfl
def zTR:Cfg:=zH [] []
theorem zVH (t:Tmp):zTR.mu t=List.contains (α:=Nat) [] t:=(rfl)
theorem zj6:zd Tryz.prog zTR Tryz.f78=true:=by kernel_rfl
def zdk:Cfg:=zH [] []
theorem zk2:zd Tryz.prog zdk Tryz.f84=true:=by kernel_rfl
def zdl:Cfg:=zH [] []
theorem zk3:zd Tryz.prog zdl Tryz.f90=true:=by kernel_rfl
def zdm:Cfg:=zH [] []
theorem zk4:zd Tryz.prog zdm Tryz.f96=true:=by kernel_rfl
def zPk:Cfg:=zH [] []
theorem zOB (t:Tmp):zPk.mu t=List.contains (α:=Nat) [] t:=(rfl)
theorem zdn:zd Tryz.prog zPk Tryz.f102=true:=by kernel_rfl
def zPl:Cfg:=zH [16] [(2,[(0, .st),(1, .no),(2, .st)]++nr 3 6)]
theorem zWD (t:Tmp):zPl.mu t=List.contains (α:=Nat) [16] t:=(rfl)
theorem zdo:zd Tryz.prog zPl Tryz.f108=true:=by kernel_rfl
def zPm:Cfg:=zH [] []
theorem zOC (t:Tmp):zPm.mu t=List.contains (α:=Nat) [] t:=(rfl)
theorem zdp:zd Tryz.prog zPm Tryz.f114=true:=by kernel_rfl
def zPn:Cfg:=zH [] []
theorem zhu (t:Tmp):zPn.mu t=List.contains (α:=Nat) [] t:=(rfl)
theorem zdq:zd Tryz.prog zPn Tryz.f120=true:=by kernel_rfl
def zTS:Cfg:=zH [] []
theorem zWE (t:Tmp):zTS.mu t=List.contains (α:=Nat) [] t:=(rfl)
theorem zhv:zd Tryz.prog zTS Tryz.f126=true:=by kernel_rfl
def zYI:Cfg:=zH [] []
theorem zhw:zd Tryz.prog zYI Tryz.f134=true:=by kernel_rfl
def zYJ:Cfg:=zH [] [(4,nr 0 17),(6,nr 0 18)]
theorem zhx:zd Tryz.prog zYJ Tryz.f140=true:=by kernel_rfl
def zTT:Cfg:=zH [] [(4,nr 0 10)]
theorem zOD (t:Tmp):zTT.mu t=List.contains (α:=Nat) [] t:=(rfl)
theorem zhy:zd Tryz.prog zTT Tryz.f152=true:=by kernel_rfl
def zJf:Cfg:=zH [] [(3,nr 0 10),(6,[(0, .no),(9, .no)]++nr 1 8++nr 10 10),(7,nr 0 34),(8,[(0, .no),(1, .no),(8, .no)]++nr 2 6++nr 9 7)]
theorem zE0 (t:Tmp):zJf.mu t=List.contains (α:=Nat) [] t:=(rfl)
theorem zdr:zd Tryz.prog zJf Tryz.f158=true:=by kernel_rfl
def zPo:Cfg:=zH [] []
theorem zhz (t:Tmp):zPo.mu t=List.contains (α:=Nat) [] t:=(rfl)
theorem zds:zd Tryz.prog zPo Tryz.f164=true:=by kernel_rfl
def zPp:Cfg:=zH [] []
theorem zh0 (t:Tmp):zPp.mu t=List.contains (α:=Nat) [] t:=(rfl)
theorem zdt:zd Tryz.prog zPp Tryz.f170=true:=by kernel_rfl
def zTU:Cfg:=zH [] [(1,nr 0 4++ [(5, .no),(6, .st),(7, .no),(8, .st),(4, .no)]++nr 9 4)]
theorem zdu (t:Tmp):zTU.mu t=List.contains (α:=Nat) [] t:=(rfl)
theorem zh1:zd Tryz.prog zTU Tryz.f176=true:=by kernel_rfl
def zPq:Cfg:=zH [2] []
theorem zTV (t:Tmp):zPq.mu t=List.contains (α:=Nat) [2] t:=(rfl)
theorem zh2:zd Tryz.prog zPq Tryz.f182=true:=by kernel_rfl
def zTW:Cfg:=zH [] []
theorem zh3 (t:Tmp):zTW.mu t=List.contains (α:=Nat) [] t:=(rfl)
theorem zh4:zd Tryz.prog zTW Tryz.f202=true:=by kernel_rfl
def zPr:Cfg:=zH [] [(1,[(2, .no),(6, .no),(0, .no),(1, .no)]++nr 3 3++nr 7 5)]
theorem zdv (t:Tmp):zPr.mu t=List.contains (α:=Nat) [] t:=(rfl)
theorem zdw:zd Tryz.prog zPr Tryz.f208=true:=by kernel_rfl
def zPs:Cfg:=zH [] [(4,nr 0 17),(6,nr 0 18)]
theorem zZr (t:Tmp):zPs.mu t=List.contains (α:=Nat) [] t:=(rfl)
theorem zdx:zd Tryz.prog zPs Tryz.f221=true:=by kernel_rfl
def zTX:Cfg:=zH [] []
theorem zBq (t:Tmp):zTX.mu t=List.contains (α:=Nat) [] t:=(rfl)
theorem zh5:zd Tryz.prog zTX Tryz.f260=true:=by kernel_rfl
def zPt:Cfg:=zH [] []
theorem zdy (t:Tmp):zPt.mu t=List.contains (α:=Nat) [] t:=(rfl)
theorem zdz:zd Tryz.prog zPt Tryz.f266=true:=by kernel_rfl
def zTY:Cfg:=zH [] [(11,nr 0 8),(16,nr 0 12),(18,nr 0 3++ [(9, .no)]++nr 3 6++nr 10 3)]
theorem zGd (t:Tmp):zTY.mu t=List.contains (α:=Nat) [] t:=(rfl)
theorem zh6:zd Tryz.prog zTY Tryz.f315=true:=by kernel_rfl
def zTZ:Cfg:=zH [] []
theorem zh7 (t:Tmp):zTZ.mu t=List.contains (α:=Nat) [] t:=(rfl)
theorem zh8:zd Tryz.prog zTZ Tryz.f339=true:=by kernel_rfl
def zd0:Cfg:=zH [] []
theorem zk5:zd Tryz.prog zd0 Tryz.f13=true:=by kernel_rfl
def zWF:Cfg:=zH [] []
theorem zZs (t:Tmp):zWF.mu t=List.contains (α:=Nat) [] t:=(rfl)
theorem zj7:zd Tryz.prog zWF Tryz.f37=true:=by kernel_rfl
def zZt:Cfg:=zH [] []
theorem zj8:zd Tryz.prog zZt Tryz.f49=true:=by kernel_rfl
def zd1:Cfg:=zH [] []
theorem zk6:zd Tryz.prog zd1 Tryz.f55=true:=by kernel_rfl
def zZu:Cfg:=zH [] [(1,nr 0 4++ [(5, .no),(6, .st),(7, .no),(8, .st),(10, .no),(11, .st),(12, .no),(13, .st),(15, .no),(16, .st),(17, .no),(18, .st),(4, .no),(9, .no),(14, .no)]++nr 19 4)]
theorem zj9 (t:Tmp):zZu.mu t=List.contains (α:=Nat) [] t:=(rfl)
theorem zk7:zd Tryz.prog zZu Tryz.f61=true:=by kernel_rfl
def zZv:Cfg:=zH [] []
theorem zk8 (t:Tmp):zZv.mu t=List.contains (α:=Nat) [] t:=(rfl)
theorem zk9:zd Tryz.prog zZv Tryz.f67=true:=by kernel_rfl
def zWG:Cfg:=zH [] []
theorem zlA (t:Tmp):zWG.mu t=List.contains (α:=Nat) [] t:=(rfl)
theorem zkA:zd Tryz.prog zWG Tryz.f73=true:=by kernel_rfl
def zRA:Cfg:=zH [] []
theorem zHp (t:Tmp):zRA.mu t=List.contains (α:=Nat) [] t:=(rfl)
theorem zf8:zd Tryz.prog zRA Tryz.f79=true:=by kernel_rfl
def zd2:Cfg:=zH [] []
theorem zlB:zd Tryz.prog zd2 Tryz.f85=true:=by kernel_rfl
def zWH:Cfg:=zH [] []
theorem zlC (t:Tmp):zWH.mu t=List.contains (α:=Nat) [] t:=(rfl)
theorem zkB:zd Tryz.prog zWH Tryz.f91=true:=by kernel_rfl
def zWI:Cfg:=zH [] [(14,nr 0 13)]
theorem zEX (t:Tmp):zWI.mu t=List.contains (α:=Nat) [] t:=(rfl)
theorem zkC:zd Tryz.prog zWI Tryz.f97=true:=by kernel_rfl
def zTa:Cfg:=zH [] [(10,nr 0 12)]
theorem zMN (t:Tmp):zTa.mu t=List.contains (α:=Nat) [] t:=(rfl)
theorem zh9:zd Tryz.prog zTa Tryz.f103=true:=by kernel_rfl
def zPu:Cfg:=zH [7] []
theorem ziA (t:Tmp):zPu.mu t=List.contains (α:=Nat) [7] t:=(rfl)
theorem zd3:zd Tryz.prog zPu Tryz.f109=true:=by kernel_rfl
def zPv:Cfg:=zH [] []
theorem ziB (t:Tmp):zPv.mu t=List.contains (α:=Nat) [] t:=(rfl)
theorem zd4:zd Tryz.prog zPv Tryz.f115=true:=by kernel_rfl
def zPw:Cfg:=zH [] []
theorem zd5 (t:Tmp):zPw.mu t=List.contains (α:=Nat) [] t:=(rfl)
theorem zd6:zd Tryz.prog zPw Tryz.f121=true:=by kernel_rfl
def zYK:Cfg:=zH [] []
theorem ziC:zd Tryz.prog zYK Tryz.f135=true:=by kernel_rfl
def zPx:Cfg:=zH [] []
theorem zd7 (t:Tmp):zPx.mu t=List.contains (α:=Nat) [] t:=(rfl)
theorem zd8:zd Tryz.prog zPx Tryz.f147=true:=by kernel_rfl
def zPy:Cfg:=zH [] [(4,nr 0 10)]
theorem zOE (t:Tmp):zPy.mu t=List.contains (α:=Nat) [] t:=(rfl)
theorem zd9:zd Tryz.prog zPy Tryz.f153=true:=by kernel_rfl
def zJg:Cfg:=zH [] [(3,[(0, .no),(4, .no),(8, .no)]++nr 1 3++nr 5 3++nr 9 9),(4,nr 0 4++ [(7, .no)]++nr 4 3++nr 8 6)]
theorem zFi (t:Tmp):zJg.mu t=List.contains (α:=Nat) [] t:=(rfl)
theorem zeA:zd Tryz.prog zJg Tryz.f159=true:=by kernel_rfl
def zTb:Cfg:=zH [] []
theorem zeB:zd Tryz.prog zTb Tryz.f165=true:=by kernel_rfl
def zPz:Cfg:=zH [] []
theorem zMO (t:Tmp):zPz.mu t=List.contains (α:=Nat) [] t:=(rfl)
theorem zeC:zd Tryz.prog zPz Tryz.f171=true:=by kernel_rfl
def zTc:Cfg:=zH [] [(6,nr 0 10),(11,nr 0 10)]
theorem zE1 (t:Tmp):zTc.mu t=List.contains (α:=Nat) [] t:=(rfl)
theorem ziD:zd Tryz.prog zTc Tryz.f177=true:=by kernel_rfl
def zTd:Cfg:=zH [] []
theorem zMP (t:Tmp):zTd.mu t=List.contains (α:=Nat) [] t:=(rfl)
theorem ziE:zd Tryz.prog zTd Tryz.f183=true:=by kernel_rfl
def zP0:Cfg:=zH [] []
theorem ziF (t:Tmp):zP0.mu t=List.contains (α:=Nat) [] t:=(rfl)
theorem zeD:zd Tryz.prog zP0 Tryz.f203=true:=by kernel_rfl
def zTe:Cfg:=zH [] []
theorem ziG (t:Tmp):zTe.mu t=List.contains (α:=Nat) [] t:=(rfl)
theorem ziH:zd Tryz.prog zTe Tryz.f209=true:=by kernel_rfl
def zYL:Cfg:=zH [] []
theorem ziI:zd Tryz.prog zYL Tryz.f252=true:=by kernel_rfl
def zTf:Cfg:=zH [] []
theorem zTg (t:Tmp):zTf.mu t=List.contains (α:=Nat) [] t:=(rfl)
theorem ziJ:zd Tryz.prog zTf Tryz.f261=true:=by kernel_rfl
def zTh:Cfg:=zH [] [(4,nr 0 9++ [(15, .no)]++nr 9 6++nr 16 4)]
theorem zWJ (t:Tmp):zTh.mu t=List.contains (α:=Nat) [] t:=(rfl)
theorem ziK:zd Tryz.prog zTh Tryz.f316=true:=by kernel_rfl
def zTi:Cfg:=zH [] []
theorem ziL (t:Tmp):zTi.mu t=List.contains (α:=Nat) [] t:=(rfl)
theorem ziM:zd Tryz.prog zTi Tryz.f340=true:=by kernel_rfl
def zkD:Cfg:=zH [] [(9,nr 0 51++ [(52, .no),(53, .no),(51, .no)]++nr 54 5++ [(60, .no),(59, .no)]++nr 61 7)]
theorem ok8:zd Tryz.prog zkD Tryz.f8=true:=by kernel_rfl
def zeE:Cfg:=zH [] []
theorem zlD:zd Tryz.prog zeE Tryz.f14=true:=by kernel_rfl
def zeF:Cfg:=zH [] [(6,nr 0 9)]
theorem zlE:zd Tryz.prog zeF Tryz.f20=true:=by kernel_rfl
def zWK:Cfg:=zH [16] [(6,nr 0 17),(11,[(0, .no),(1, .st)]++nr 2 12),(16,nr 0 20)]
theorem zNY (t:Tmp):zWK.mu t=List.contains (α:=Nat) [16] t:=(rfl)
theorem zkE:zd Tryz.prog zWK Tryz.f38=true:=by kernel_rfl
def zWL:Cfg:=zH [] []
theorem zlF (t:Tmp):zWL.mu t=List.contains (α:=Nat) [] t:=(rfl)
theorem zkF:zd Tryz.prog zWL Tryz.f44=true:=by kernel_rfl
def zWM:Cfg:=zH [] []
theorem zeG (t:Tmp):zWM.mu t=List.contains (α:=Nat) [] t:=(rfl)
theorem zkG:zd Tryz.prog zWM Tryz.f50=true:=by kernel_rfl
def zeH:Cfg:=zH [] []
theorem zlG:zd Tryz.prog zeH Tryz.f56=true:=by kernel_rfl
def zeI:Cfg:=zH [] []
theorem zlH:zd Tryz.prog zeI Tryz.f62=true:=by kernel_rfl
def zWN:Cfg:=zH [] []
theorem zWO (t:Tmp):zWN.mu t=List.contains (α:=Nat) [] t:=(rfl)
theorem zkH:zd Tryz.prog zWN Tryz.f68=true:=by kernel_rfl
def zWP:Cfg:=zH [] []
theorem zlI (t:Tmp):zWP.mu t=List.contains (α:=Nat) [] t:=(rfl)
theorem zkI:zd Tryz.prog zWP Tryz.f74=true:=by kernel_rfl
def zeJ:Cfg:=zH [] [(7,nr 0 12),(9,nr 0 17),(11,nr 0 21)]
theorem zlJ:zd Tryz.prog zeJ Tryz.f86=true:=by kernel_rfl
def zeK:Cfg:=zH [] []
theorem zlK:zd Tryz.prog zeK Tryz.f92=true:=by kernel_rfl
def zWQ:Cfg:=zH [] []
theorem zf9 (t:Tmp):zWQ.mu t=List.contains (α:=Nat) [] t:=(rfl)
theorem zkJ:zd Tryz.prog zWQ Tryz.f98=true:=by kernel_rfl
def zP1:Cfg:=zH [] []
theorem zTj (t:Tmp):zP1.mu t=List.contains (α:=Nat) [] t:=(rfl)
theorem zeL:zd Tryz.prog zP1 Tryz.f104=true:=by kernel_rfl
def zYM:Cfg:=zH [] []
theorem ziN:zd Tryz.prog zYM Tryz.f110=true:=by kernel_rfl
def zP2:Cfg:=zH [] []
theorem zTk (t:Tmp):zP2.mu t=List.contains (α:=Nat) [] t:=(rfl)
theorem zeM:zd Tryz.prog zP2 Tryz.f116=true:=by kernel_rfl
def zTl:Cfg:=zH [44] []
theorem zHq (t:Tmp):zTl.mu t=List.contains (α:=Nat) [44] t:=(rfl)
theorem ziO:zd Tryz.prog zTl Tryz.f122=true:=by kernel_rfl
def zP3:Cfg:=zH [] []
theorem zMQ (t:Tmp):zP3.mu t=List.contains (α:=Nat) [] t:=(rfl)
theorem zeN:zd Tryz.prog zP3 Tryz.f128=true:=by kernel_rfl
def zYN:Cfg:=zH [] []
theorem ziP:zd Tryz.prog zYN Tryz.f136=true:=by kernel_rfl
def zYO:Cfg:=zH [] [(4,nr 0 17),(6,nr 0 18)]
theorem ziQ:zd Tryz.prog zYO Tryz.f142=true:=by kernel_rfl
def zP4:Cfg:=zH [] []
theorem zeO (t:Tmp):zP4.mu t=List.contains (α:=Nat) [] t:=(rfl)
theorem zeP:zd Tryz.prog zP4 Tryz.f148=true:=by kernel_rfl
def zTm:Cfg:=zH [] [(11,nr 0 19)]
theorem zFj (t:Tmp):zTm.mu t=List.contains (α:=Nat) [] t:=(rfl)
theorem ziR:zd Tryz.prog zTm Tryz.f154=true:=by kernel_rfl
def zMR:Cfg:=zH [] []
theorem zTn (t:Tmp):zMR.mu t=List.contains (α:=Nat) [] t:=(rfl)
theorem zeQ:zd Tryz.prog zMR Tryz.f160=true:=by kernel_rfl
def zTo:Cfg:=zH [] []
theorem zeR:zd Tryz.prog zTo Tryz.f166=true:=by kernel_rfl
def zP5:Cfg:=zH [] []
theorem zeS (t:Tmp):zP5.mu t=List.contains (α:=Nat) [] t:=(rfl)
theorem zeT:zd Tryz.prog zP5 Tryz.f172=true:=by kernel_rfl
def zTp:Cfg:=zH [] []
theorem zTq (t:Tmp):zTp.mu t=List.contains (α:=Nat) [] t:=(rfl)
theorem ziS:zd Tryz.prog zTp Tryz.f198=true:=by kernel_rfl
def zP6:Cfg:=zH [] []
theorem ziT (t:Tmp):zP6.mu t=List.contains (α:=Nat) [] t:=(rfl)
theorem zeU:zd Tryz.prog zP6 Tryz.f204=true:=by kernel_rfl
def zYP:Cfg:=zH [] [(4,nr 0 15),(6,nr 0 18)]
theorem ziU:zd Tryz.prog zYP Tryz.f210=true:=by kernel_rfl
def zYQ:Cfg:=zH [] []
theorem ziV:zd Tryz.prog zYQ Tryz.f216=true:=by kernel_rfl
def zTr:Cfg:=zH [] []
theorem zeV:zd Tryz.prog zTr Tryz.f229=true:=by kernel_rfl
def zTs:Cfg:=zH [] []
theorem zOF (t:Tmp):zTs.mu t=List.contains (α:=Nat) [] t:=(rfl)
theorem ziW:zd Tryz.prog zTs Tryz.f235=true:=by kernel_rfl
def zJh:Cfg:=zH [] [(4,[(0, .no),(4, .no)]++nr 1 3++nr 5 6)]
theorem zFk (t:Tmp):zJh.mu t=List.contains (α:=Nat) [] t:=(rfl)
theorem zeW:zd Tryz.prog zJh Tryz.f262=true:=by kernel_rfl
def zTt:Cfg:=zH [] []
theorem zeX:zd Tryz.prog zTt Tryz.f275=true:=by kernel_rfl
def zTu:Cfg:=zH [] []
theorem zTv (t:Tmp):zTu.mu t=List.contains (α:=Nat) [] t:=(rfl)
theorem ziX:zd Tryz.prog zTu Tryz.f299=true:=by kernel_rfl
def zP7:Cfg:=zH [] []
theorem ziY (t:Tmp):zP7.mu t=List.contains (α:=Nat) [] t:=(rfl)
theorem zeY:zd Tryz.prog zP7 Tryz.f317=true:=by kernel_rfl
def zP8:Cfg:=zH [] [(4,nr 0 6)]
theorem zOG (t:Tmp):zP8.mu t=List.contains (α:=Nat) [] t:=(rfl)
theorem zeZ:zd Tryz.prog zP8 Tryz.f341=true:=by kernel_rfl
set_option maxRecDepth 100000
def tab:List (Nat× (Func×Cfg)):=[(8,(Tryz.f8,zkD)),(11,(Tryz.f11,zVz)),(12,(Tryz.f12,zV7)),(13,(Tryz.f13,zd0)),(14,(Tryz.f14,zeE)),(17,(Tryz.f17,zV0)),(18,(Tryz.f18,zV8)),(20,(Tryz.f20,zeF)),(22,(Tryz.f22,zdA)),(24,(Tryz.f24,zV9)),(27,(Tryz.f27,zVm)),(29,(Tryz.f29,zZi)),(33,(Tryz.f33,zcz)),(36,(Tryz.f36,zWA)),(37,(Tryz.f37,zWF)),(38,(Tryz.f38,zWK)),(39,(Tryz.f39,zVn)),(40,(Tryz.f40,zVs)),(41,(Tryz.f41,zTH)),(42,(Tryz.f42,zdh)),(44,(Tryz.f44,zWL)),(45,(Tryz.f45,zVo)),(46,(Tryz.f46,zVt)),(47,(Tryz.f47,zV1)),(48,(Tryz.f48,zWB)),(49,(Tryz.f49,zZt)),(50,(Tryz.f50,zWM)),(53,(Tryz.f53,zZl)),(54,(Tryz.f54,zdi)),(55,(Tryz.f55,zd1)),(56,(Tryz.f56,zeH)),(57,(Tryz.f57,zVp)),(58,(Tryz.f58,zdC)),(60,(Tryz.f60,zdj)),(62,(Tryz.f62,zeI)),(64,(Tryz.f64,zVu)),(68,(Tryz.f68,zWN)),(69,(Tryz.f69,zVq)),(70,(Tryz.f70,zVv)),(71,(Tryz.f71,zV2)),(72,(Tryz.f72,zWC)),(73,(Tryz.f73,zWG)),(74,(Tryz.f74,zWP)),(75,(Tryz.f75,zVr)),(76,(Tryz.f76,zVw)),(77,(Tryz.f77,zV3)),(78,(Tryz.f78,zTR)),(79,(Tryz.f79,zRA)),(82,(Tryz.f82,zVx)),(83,(Tryz.f83,zV4)),(84,(Tryz.f84,zdk)),(85,(Tryz.f85,zd2)),(86,(Tryz.f86,zeJ)),(88,(Tryz.f88,zdD)),(90,(Tryz.f90,zdl)),(91,(Tryz.f91,zWH)),(92,(Tryz.f92,zeK)),(93,(Tryz.f93,zc0)),(94,(Tryz.f94,zZg)),(95,(Tryz.f95,zZn)),(96,(Tryz.f96,zdm)),(97,(Tryz.f97,zWI)),(98,(Tryz.f98,zWQ)),(100,(Tryz.f100,zPV)),(104,(Tryz.f104,zP1)),(105,(Tryz.f105,zPS)),(106,(Tryz.f106,zPW)),(107,(Tryz.f107,zPd)),(108,(Tryz.f108,zPl)),(109,(Tryz.f109,zPu)),(110,(Tryz.f110,zYM)),(111,(Tryz.f111,zPT)),(112,(Tryz.f112,zPX)),(113,(Tryz.f113,zML)),(114,(Tryz.f114,zPm)),(115,(Tryz.f115,zPv)),(116,(Tryz.f116,zP2)),(117,(Tryz.f117,zSt)),(118,(Tryz.f118,zPY)),(119,(Tryz.f119,zMM)),(120,(Tryz.f120,zPn)),(121,(Tryz.f121,zPw)),(128,(Tryz.f128,zP3)),(130,(Tryz.f130,zX8)),(132,(Tryz.f132,zS8)),(133,(Tryz.f133,zYE)),(134,(Tryz.f134,zYI)),(135,(Tryz.f135,zYK)),(136,(Tryz.f136,zYN)),(137,(Tryz.f137,zX9)),(138,(Tryz.f138,zYC)),(140,(Tryz.f140,zYJ)),(142,(Tryz.f142,zYO)),(144,(Tryz.f144,zS9)),(145,(Tryz.f145,zYF)),(147,(Tryz.f147,zPx)),(148,(Tryz.f148,zP4)),(151,(Tryz.f151,zPe)),(153,(Tryz.f153,zPy)),(155,(Tryz.f155,zMG)),(156,(Tryz.f156,zMI)),(157,(Tryz.f157,zJe)),(158,(Tryz.f158,zJf)),(159,(Tryz.f159,zJg)),(160,(Tryz.f160,zMR)),(161,(Tryz.f161,zYA)),(162,(Tryz.f162,zYD)),(163,(Tryz.f163,zPf)),(164,(Tryz.f164,zPo)),(165,(Tryz.f165,zTb)),(166,(Tryz.f166,zTo)),(167,(Tryz.f167,zSw)),(168,(Tryz.f168,zMJ)),(169,(Tryz.f169,zPg)),(170,(Tryz.f170,zPp)),(171,(Tryz.f171,zPz)),(172,(Tryz.f172,zP5)),(190,(Tryz.f190,zYB)),(200,(Tryz.f200,zPZ)),(201,(Tryz.f201,zPh)),(203,(Tryz.f203,zP0)),(204,(Tryz.f204,zP6)),(206,(Tryz.f206,zPa)),(207,(Tryz.f207,zPi)),(208,(Tryz.f208,zPr)),(210,(Tryz.f210,zYP)),(216,(Tryz.f216,zYQ)),(220,(Tryz.f220,zYG)),(221,(Tryz.f221,zPs)),(229,(Tryz.f229,zTr)),(230,(Tryz.f230,zS1)),(231,(Tryz.f231,zPb)),(252,(Tryz.f252,zYL)),(262,(Tryz.f262,zJh)),(263,(Tryz.f263,zPU)),(264,(Tryz.f264,zPc)),(265,(Tryz.f265,zPj)),(266,(Tryz.f266,zPt)),(275,(Tryz.f275,zTt)),(317,(Tryz.f317,zP7)),(320,(Tryz.f320,zTO)),(341,(Tryz.f341,zP8))]
theorem qB:zFd Tryz.prog tab:=⟨⟨Tryz.func8,ok8⟩,⟨Tryz.func11,zjp⟩,⟨Tryz.func12,zjz⟩,⟨Tryz.func13,zk5⟩,⟨Tryz.func14,zlD⟩,⟨Tryz.func17,zjq⟩,⟨Tryz.func18,zj0⟩,⟨Tryz.func20,zlE⟩,⟨Tryz.func22,zkm⟩,⟨Tryz.func24,zj1⟩,⟨Tryz.func27,zja⟩,⟨Tryz.func29,zjr⟩,⟨Tryz.func33,zke⟩,⟨Tryz.func36,zj2⟩,⟨Tryz.func37,zj7⟩,⟨Tryz.func38,zkE⟩,⟨Tryz.func39,zjb⟩,⟨Tryz.func40,zjh⟩,⟨Tryz.func41,zjs⟩,⟨Tryz.func42,zky⟩,⟨Tryz.func44,zkF⟩,⟨Tryz.func45,zjc⟩,⟨Tryz.func46,zji⟩,⟨Tryz.func47,zjt⟩,⟨Tryz.func48,zj3⟩,⟨Tryz.func49,zj8⟩,⟨Tryz.func50,zkG⟩,⟨Tryz.func53,zju⟩,⟨Tryz.func54,zkz⟩,⟨Tryz.func55,zk6⟩,⟨Tryz.func56,zlG⟩,⟨Tryz.func57,zjd⟩,⟨Tryz.func58,zko⟩,⟨Tryz.func60,zk0⟩,⟨Tryz.func62,zlH⟩,⟨Tryz.func64,zjj⟩,⟨Tryz.func68,zkH⟩,⟨Tryz.func69,zjf⟩,⟨Tryz.func70,zjk⟩,⟨Tryz.func71,zjv⟩,⟨Tryz.func72,zj5⟩,⟨Tryz.func73,zkA⟩,⟨Tryz.func74,zkI⟩,⟨Tryz.func75,zjg⟩,⟨Tryz.func76,zjm⟩,⟨Tryz.func77,zjw⟩,⟨Tryz.func78,zj6⟩,⟨Tryz.func79,zf8⟩,⟨Tryz.func82,zjn⟩,⟨Tryz.func83,zjx⟩,⟨Tryz.func84,zk2⟩,⟨Tryz.func85,zlB⟩,⟨Tryz.func86,zlJ⟩,⟨Tryz.func88,zkq⟩,⟨Tryz.func90,zk3⟩,⟨Tryz.func91,zkB⟩,⟨Tryz.func92,zlK⟩,⟨Tryz.func93,zkj⟩,⟨Tryz.func94,zjo⟩,⟨Tryz.func95,zjy⟩,⟨Tryz.func96,zk4⟩,⟨Tryz.func97,zkC⟩,⟨Tryz.func98,zkJ⟩,⟨Tryz.func100,zdE⟩,⟨Tryz.func104,zeL⟩,⟨Tryz.func105,zc1⟩,⟨Tryz.func106,zdF⟩,⟨Tryz.func107,zdU⟩,⟨Tryz.func108,zdo⟩,⟨Tryz.func109,zd3⟩,⟨Tryz.func110,ziN⟩,⟨Tryz.func111,zc2⟩,⟨Tryz.func112,zdG⟩,⟨Tryz.func113,zZo⟩,⟨Tryz.func114,zdp⟩,⟨Tryz.func115,zd4⟩,⟨Tryz.func116,zeM⟩,⟨Tryz.func117,zc3⟩,⟨Tryz.func118,zdH⟩,⟨Tryz.func119,zdV⟩,⟨Tryz.func120,zdq⟩,⟨Tryz.func121,zd6⟩,⟨Tryz.func128,zeN⟩,⟨Tryz.func130,zg9⟩,⟨Tryz.func132,zdI⟩,⟨Tryz.func133,zhh⟩,⟨Tryz.func134,zhw⟩,⟨Tryz.func135,ziC⟩,⟨Tryz.func136,ziP⟩,⟨Tryz.func137,zhA⟩,⟨Tryz.func138,zhS⟩,⟨Tryz.func140,zhx⟩,⟨Tryz.func142,ziQ⟩,⟨Tryz.func144,zdJ⟩,⟨Tryz.func145,zhi⟩,⟨Tryz.func147,zd8⟩,⟨Tryz.func148,zeP⟩,⟨Tryz.func151,zdX⟩,⟨Tryz.func153,zd9⟩,⟨Tryz.func155,zc5⟩,⟨Tryz.func156,zdK⟩,⟨Tryz.func157,zdY⟩,⟨Tryz.func158,zdr⟩,⟨Tryz.func159,zeA⟩,⟨Tryz.func160,zeQ⟩,⟨Tryz.func161,zhD⟩,⟨Tryz.func162,zhV⟩,⟨Tryz.func163,zdZ⟩,⟨Tryz.func164,zds⟩,⟨Tryz.func165,zeB⟩,⟨Tryz.func166,zeR⟩,⟨Tryz.func167,zc6⟩,⟨Tryz.func168,zdL⟩,⟨Tryz.func169,zda⟩,⟨Tryz.func170,zdt⟩,⟨Tryz.func171,zeC⟩,⟨Tryz.func172,zeT⟩,⟨Tryz.func190,zhG⟩,⟨Tryz.func200,zdM⟩,⟨Tryz.func201,zdc⟩,⟨Tryz.func203,zeD⟩,⟨Tryz.func204,zeU⟩,⟨Tryz.func206,zdN⟩,⟨Tryz.func207,zdd⟩,⟨Tryz.func208,zdw⟩,⟨Tryz.func210,ziU⟩,⟨Tryz.func216,ziV⟩,⟨Tryz.func220,zho⟩,⟨Tryz.func221,zdx⟩,⟨Tryz.func229,zeV⟩,⟨Tryz.func230,zc8⟩,⟨Tryz.func231,zdP⟩,⟨Tryz.func252,ziI⟩,⟨Tryz.func262,zeW⟩,⟨Tryz.func263,zc9⟩,⟨Tryz.func264,zdR⟩,⟨Tryz.func265,zde⟩,⟨Tryz.func266,zdz⟩,⟨Tryz.func275,zeX⟩,⟨Tryz.func317,zeY⟩,⟨Tryz.func320,zdf⟩,⟨Tryz.func341,zeZ⟩,trivial⟩
theorem mix:Tryz.prog.follows .mixedOrders=true:=by kernel_rfl
end Go.V
end
