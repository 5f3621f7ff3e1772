/- How functions of this program are read by the machine, part 1. No condition. -/
import Derived.Test.YtmhkjfajejaniaaGreatDoorW04
import Derived.KernelRfl
import Derived.Test.YtmhkjfajejaniaaGreatDoorProg
set_option linter.all false
noncomputable section
namespace Go.V
open Go.Proofs
def zhG:Cfg:=zI [] []
theorem mu9 (t:Tmp):zhG.mu t=List.contains (α:=Nat) [] t:=(rfl)
theorem ok9:zf Tryz.prog zhG Tryz.f9=true:=by kernel_rfl
def zVr:Cfg:=zI [] []
theorem zkj (t:Tmp):zVr.mu t=List.contains (α:=Nat) [] t:=(rfl)
theorem zjl:zf Tryz.prog zVr Tryz.f27=true:=by kernel_rfl
def zc6:Cfg:=zI [17] [(7,nr 0 10)]
theorem zkk:zf Tryz.prog zc6 Tryz.f33=true:=by kernel_rfl
def zVs:Cfg:=zI [] []
theorem zKx (t:Tmp):zVs.mu t=List.contains (α:=Nat) [] t:=(rfl)
theorem zjm:zf Tryz.prog zVs Tryz.f39=true:=by kernel_rfl
def zVt:Cfg:=zI [] []
theorem zkl (t:Tmp):zVt.mu t=List.contains (α:=Nat) [] t:=(rfl)
theorem zjn:zf Tryz.prog zVt Tryz.f45=true:=by kernel_rfl
def zVu:Cfg:=zI [] []
theorem zhH (t:Tmp):zVu.mu t=List.contains (α:=Nat) [] t:=(rfl)
theorem zjo:zf Tryz.prog zVu Tryz.f57=true:=by kernel_rfl
def zZf:Cfg:=zI [] [(1,nr 0 4++ [(5, .no),(6, .st),(7, .no),(8, .st),(4, .no)]++nr 9 4)]
theorem zjp (t:Tmp):zZf.mu t=List.contains (α:=Nat) [] t:=(rfl)
theorem zkm:zf Tryz.prog zZf Tryz.f63=true:=by kernel_rfl
def zVv:Cfg:=zI [7] []
theorem zkn (t:Tmp):zVv.mu t=List.contains (α:=Nat) [7] t:=(rfl)
theorem zjq:zf Tryz.prog zVv Tryz.f69=true:=by kernel_rfl
def zVw:Cfg:=zI [] []
theorem zko (t:Tmp):zVw.mu t=List.contains (α:=Nat) [] t:=(rfl)
theorem zjr:zf Tryz.prog zVw Tryz.f75=true:=by kernel_rfl
def zc7:Cfg:=zI [] []
theorem zkp:zf Tryz.prog zc7 Tryz.f93=true:=by kernel_rfl
def zZg:Cfg:=zI [] [(9,nr 0 25)]
theorem zgF (t:Tmp):zZg.mu t=List.contains (α:=Nat) [] t:=(rfl)
theorem zkq:zf Tryz.prog zZg Tryz.f99=true:=by kernel_rfl
def zPX:Cfg:=zI [] []
theorem zSs (t:Tmp):zPX.mu t=List.contains (α:=Nat) [] t:=(rfl)
theorem zc8:zf Tryz.prog zPX Tryz.f105=true:=by kernel_rfl
def zPY:Cfg:=zI [] [(6,nr 0 10),(11,nr 0 10)]
theorem zE8 (t:Tmp):zPY.mu t=List.contains (α:=Nat) [] t:=(rfl)
theorem zc9:zf Tryz.prog zPY Tryz.f111=true:=by kernel_rfl
def zSt:Cfg:=zI [] []
theorem zdA:zf Tryz.prog zSt Tryz.f117=true:=by kernel_rfl
def zSu:Cfg:=zI [] []
theorem zdB (t:Tmp):zSu.mu t=List.contains (α:=Nat) [] t:=(rfl)
theorem zhI:zf Tryz.prog zSu Tryz.f123=true:=by kernel_rfl
def zX4:Cfg:=zI [] []
theorem zhJ:zf Tryz.prog zX4 Tryz.f130=true:=by kernel_rfl
def zX5:Cfg:=zI [] []
theorem zhK:zf Tryz.prog zX5 Tryz.f137=true:=by kernel_rfl
def zSv:Cfg:=zI [] []
theorem zhL (t:Tmp):zSv.mu t=List.contains (α:=Nat) [] t:=(rfl)
theorem zhM:zf Tryz.prog zSv Tryz.f149=true:=by kernel_rfl
def zMQ:Cfg:=zI [] []
theorem zRB (t:Tmp):zMQ.mu t=List.contains (α:=Nat) [] t:=(rfl)
theorem zdC:zf Tryz.prog zMQ Tryz.f155=true:=by kernel_rfl
def zX6:Cfg:=zI [] [(17,nr 0 15)]
theorem zhN:zf Tryz.prog zX6 Tryz.f161=true:=by kernel_rfl
def zSw:Cfg:=zI [] []
theorem zdD:zf Tryz.prog zSw Tryz.f167=true:=by kernel_rfl
def zSx:Cfg:=zI [] []
theorem zhO (t:Tmp):zSx.mu t=List.contains (α:=Nat) [] t:=(rfl)
theorem zhP:zf Tryz.prog zSx Tryz.f179=true:=by kernel_rfl
def zX7:Cfg:=zI [] []
theorem zhQ:zf Tryz.prog zX7 Tryz.f190=true:=by kernel_rfl
def zSy:Cfg:=zI [] [(3,[(2, .no),(0, .no),(1, .st)]++nr 3 6)]
theorem zSz (t:Tmp):zSy.mu t=List.contains (α:=Nat) [] t:=(rfl)
theorem zhR:zf Tryz.prog zSy Tryz.f199=true:=by kernel_rfl
def zS0:Cfg:=zI [] [(1,[(2, .no),(0, .no),(1, .no)]++nr 3 10)]
theorem zdE (t:Tmp):zS0.mu t=List.contains (α:=Nat) [] t:=(rfl)
theorem zhS:zf Tryz.prog zS0 Tryz.f205=true:=by kernel_rfl
def zS1:Cfg:=zI [] []
theorem zdF:zf Tryz.prog zS1 Tryz.f230=true:=by kernel_rfl
def zS2:Cfg:=zI [] []
theorem zhT (t:Tmp):zS2.mu t=List.contains (α:=Nat) [] t:=(rfl)
theorem zhU:zf Tryz.prog zS2 Tryz.f236=true:=by kernel_rfl
def zPZ:Cfg:=zI [] []
theorem zhV (t:Tmp):zPZ.mu t=List.contains (α:=Nat) [] t:=(rfl)
theorem zdG:zf Tryz.prog zPZ Tryz.f263=true:=by kernel_rfl
def zS3:Cfg:=zI [] [(4,nr 0 6)]
theorem zOF (t:Tmp):zS3.mu t=List.contains (α:=Nat) [] t:=(rfl)
theorem zhW:zf Tryz.prog zS3 Tryz.f300=true:=by kernel_rfl
def zS4:Cfg:=zI [] []
theorem zS5 (t:Tmp):zS4.mu t=List.contains (α:=Nat) [] t:=(rfl)
theorem zhX:zf Tryz.prog zS4 Tryz.f336=true:=by kernel_rfl
def zZh:Cfg:=zI [] []
theorem zhY (t:Tmp):zZh.mu t=List.contains (α:=Nat) [] t:=(rfl)
theorem zkr:zf Tryz.prog zZh Tryz.f10=true:=by kernel_rfl
def zdH:Cfg:=zI [7] []
theorem zks:zf Tryz.prog zdH Tryz.f22=true:=by kernel_rfl
def zZi:Cfg:=zI [] []
theorem zkt (t:Tmp):zZi.mu t=List.contains (α:=Nat) [] t:=(rfl)
theorem zku:zf Tryz.prog zZi Tryz.f28=true:=by kernel_rfl
def zZj:Cfg:=zI [] [(7,nr 0 14),(14,[(1, .no),(0, .no)]++nr 2 8)]
theorem zLq (t:Tmp):zZj.mu t=List.contains (α:=Nat) [] t:=(rfl)
theorem zkv:zf Tryz.prog zZj Tryz.f34=true:=by kernel_rfl
def zVx:Cfg:=zI [] [(10,nr 0 11),(16,nr 0 8)]
theorem zS6 (t:Tmp):zVx.mu t=List.contains (α:=Nat) [] t:=(rfl)
theorem zjs:zf Tryz.prog zVx Tryz.f40=true:=by kernel_rfl
def zdI:Cfg:=zI [] []
theorem zkw:zf Tryz.prog zdI Tryz.f46=true:=by kernel_rfl
def zdJ:Cfg:=zI [] []
theorem zkx:zf Tryz.prog zdJ Tryz.f58=true:=by kernel_rfl
def zVy:Cfg:=zI [] []
theorem zKy (t:Tmp):zVy.mu t=List.contains (α:=Nat) [] t:=(rfl)
theorem zjt:zf Tryz.prog zVy Tryz.f64=true:=by kernel_rfl
def zVz:Cfg:=zI [] []
theorem zky (t:Tmp):zVz.mu t=List.contains (α:=Nat) [] t:=(rfl)
theorem zju:zf Tryz.prog zVz Tryz.f70=true:=by kernel_rfl
def zV0:Cfg:=zI [] [(1,nr 0 4++ [(5, .no),(6, .st),(7, .no),(8, .st),(4, .no)]++nr 9 4)]
theorem zjv (t:Tmp):zV0.mu t=List.contains (α:=Nat) [] t:=(rfl)
theorem zjw:zf Tryz.prog zV0 Tryz.f76=true:=by kernel_rfl
def zV1:Cfg:=zI [] []
theorem zRC (t:Tmp):zV1.mu t=List.contains (α:=Nat) [] t:=(rfl)
theorem zjx:zf Tryz.prog zV1 Tryz.f82=true:=by kernel_rfl
def zdK:Cfg:=zI [] [(3,[(0, .no),(1, .no),(2, .st),(4, .no),(5, .no),(6, .st),(9, .no),(10, .no),(11, .st),(14, .no),(15, .no),(16, .st),(3, .st),(7, .st),(8, .st),(12, .st),(13, .st),(17, .st)]++nr 18 3),(6,nr 0 7),(7,[(6, .no)]++nr 0 6++nr 7 6)]
theorem zkz:zf Tryz.prog zdK Tryz.f88=true:=by kernel_rfl
def zZk:Cfg:=zI [] []
theorem zjy:zf Tryz.prog zZk Tryz.f94=true:=by kernel_rfl
def zPa:Cfg:=zI [] [(16,nr 0 8++ [(13, .no)]++nr 8 5++nr 14 4)]
theorem zMR (t:Tmp):zPa.mu t=List.contains (α:=Nat) [] t:=(rfl)
theorem zdL:zf Tryz.prog zPa Tryz.f100=true:=by kernel_rfl
def zPb:Cfg:=zI [] []
theorem zGp (t:Tmp):zPb.mu t=List.contains (α:=Nat) [] t:=(rfl)
theorem zdM:zf Tryz.prog zPb Tryz.f106=true:=by kernel_rfl
def zPc:Cfg:=zI [] []
theorem zhZ (t:Tmp):zPc.mu t=List.contains (α:=Nat) [] t:=(rfl)
theorem zdN:zf Tryz.prog zPc Tryz.f112=true:=by kernel_rfl
def zPd:Cfg:=zI [] []
theorem zV2 (t:Tmp):zPd.mu t=List.contains (α:=Nat) [] t:=(rfl)
theorem zdO:zf Tryz.prog zPd Tryz.f118=true:=by kernel_rfl
def zS7:Cfg:=zI [24] []
theorem zGq (t:Tmp):zS7.mu t=List.contains (α:=Nat) [24] t:=(rfl)
theorem zha:zf Tryz.prog zS7 Tryz.f124=true:=by kernel_rfl
def zS8:Cfg:=zI [] []
theorem zdP:zf Tryz.prog zS8 Tryz.f132=true:=by kernel_rfl
def zX8:Cfg:=zI [] [(4,nr 0 17),(6,nr 0 18)]
theorem zhb:zf Tryz.prog zX8 Tryz.f138=true:=by kernel_rfl
def zS9:Cfg:=zI [] []
theorem zdQ:zf Tryz.prog zS9 Tryz.f144=true:=by kernel_rfl
def zTA:Cfg:=zI [] []
theorem zhc (t:Tmp):zTA.mu t=List.contains (α:=Nat) [] t:=(rfl)
theorem zhd:zf Tryz.prog zTA Tryz.f150=true:=by kernel_rfl
def zMS:Cfg:=zI [] [(3,[(0, .st),(4, .st),(1, .no),(2, .no),(3, .st),(5, .no),(6, .no),(7, .st),(8, .no),(9, .st),(10, .no),(11, .no),(12, .st),(13, .st)]++nr 14 6)]
theorem zKz (t:Tmp):zMS.mu t=List.contains (α:=Nat) [] t:=(rfl)
theorem zdR:zf Tryz.prog zMS Tryz.f156=true:=by kernel_rfl
def zX9:Cfg:=zI [] []
theorem zhe:zf Tryz.prog zX9 Tryz.f162=true:=by kernel_rfl
def zMT:Cfg:=zI [] []
theorem zTB (t:Tmp):zMT.mu t=List.contains (α:=Nat) [] t:=(rfl)
theorem zdS:zf Tryz.prog zMT Tryz.f168=true:=by kernel_rfl
def zTC:Cfg:=zI [] []
theorem zhf (t:Tmp):zTC.mu t=List.contains (α:=Nat) [] t:=(rfl)
theorem zhg:zf Tryz.prog zTC Tryz.f174=true:=by kernel_rfl
def zTD:Cfg:=zI [] []
theorem zhh (t:Tmp):zTD.mu t=List.contains (α:=Nat) [] t:=(rfl)
theorem zhi:zf Tryz.prog zTD Tryz.f180=true:=by kernel_rfl
def zPe:Cfg:=zI [] []
theorem zhj (t:Tmp):zPe.mu t=List.contains (α:=Nat) [] t:=(rfl)
theorem zdT:zf Tryz.prog zPe Tryz.f200=true:=by kernel_rfl
def zPf:Cfg:=zI [] [(7,nr 0 9)]
theorem zI3 (t:Tmp):zPf.mu t=List.contains (α:=Nat) [] t:=(rfl)
theorem zdU:zf Tryz.prog zPf Tryz.f206=true:=by kernel_rfl
def zPg:Cfg:=zI [] []
theorem zdV (t:Tmp):zPg.mu t=List.contains (α:=Nat) [] t:=(rfl)
theorem zdW:zf Tryz.prog zPg Tryz.f231=true:=by kernel_rfl
def zTE:Cfg:=zI [] []
theorem zhk (t:Tmp):zTE.mu t=List.contains (α:=Nat) [] t:=(rfl)
theorem zhl:zf Tryz.prog zTE Tryz.f237=true:=by kernel_rfl
def zPh:Cfg:=zI [] [(1,[(2, .no),(6, .no),(0, .no),(1, .no)]++nr 3 3++nr 7 5)]
theorem zdX (t:Tmp):zPh.mu t=List.contains (α:=Nat) [] t:=(rfl)
theorem zdY:zf Tryz.prog zPh Tryz.f264=true:=by kernel_rfl
def zTF:Cfg:=zI [] [(10,nr 0 14),(15,nr 0 20)]
theorem zHw (t:Tmp):zTF.mu t=List.contains (α:=Nat) [] t:=(rfl)
theorem zhm:zf Tryz.prog zTF Tryz.f313=true:=by kernel_rfl
def zTG:Cfg:=zI [] []
theorem zOG (t:Tmp):zTG.mu t=List.contains (α:=Nat) [] t:=(rfl)
theorem zhn:zf Tryz.prog zTG Tryz.f337=true:=by kernel_rfl
def zV3:Cfg:=zI [] []
theorem zbs (t:Tmp):zV3.mu t=List.contains (α:=Nat) [] t:=(rfl)
theorem zjz:zf Tryz.prog zV3 Tryz.f11=true:=by kernel_rfl
def zdZ:Cfg:=zI [] []
theorem zk0:zf Tryz.prog zdZ Tryz.f17=true:=by kernel_rfl
def zZl:Cfg:=zI [] []
theorem zj0:zf Tryz.prog zZl Tryz.f29=true:=by kernel_rfl
def zZm:Cfg:=zI [] []
theorem zgG (t:Tmp):zZm.mu t=List.contains (α:=Nat) [] t:=(rfl)
theorem zk1:zf Tryz.prog zZm Tryz.f35=true:=by kernel_rfl
def zda:Cfg:=zI [] []
theorem zk2:zf Tryz.prog zda Tryz.f41=true:=by kernel_rfl
def zV4:Cfg:=zI [] []
theorem zZn (t:Tmp):zV4.mu t=List.contains (α:=Nat) [] t:=(rfl)
theorem zj1:zf Tryz.prog zV4 Tryz.f47=true:=by kernel_rfl
def zZo:Cfg:=zI [] []
theorem zj2:zf Tryz.prog zZo Tryz.f53=true:=by kernel_rfl
def zZp:Cfg:=zI [] [(7,nr 0 26),(11,nr 0 26),(15,nr 0 18),(23,nr 0 18)]
theorem zHx (t:Tmp):zZp.mu t=List.contains (α:=Nat) [] t:=(rfl)
theorem zk3:zf Tryz.prog zZp Tryz.f65=true:=by kernel_rfl
def zV5:Cfg:=zI [] []
theorem zk4 (t:Tmp):zV5.mu t=List.contains (α:=Nat) [] t:=(rfl)
theorem zj3:zf Tryz.prog zV5 Tryz.f71=true:=by kernel_rfl
def zV6:Cfg:=zI [] [(20,nr 0 12)]
theorem zRD (t:Tmp):zV6.mu t=List.contains (α:=Nat) [] t:=(rfl)
theorem zj4:zf Tryz.prog zV6 Tryz.f77=true:=by kernel_rfl
def zV7:Cfg:=zI [31] []
theorem zk5 (t:Tmp):zV7.mu t=List.contains (α:=Nat) [31] t:=(rfl)
theorem zj5:zf Tryz.prog zV7 Tryz.f83=true:=by kernel_rfl
def zZq:Cfg:=zI [] []
theorem zj6:zf Tryz.prog zZq Tryz.f95=true:=by kernel_rfl
def zTH:Cfg:=zI [] [(9,nr 0 9++ [(14, .no)]++nr 9 5++nr 15 4)]
theorem zMU (t:Tmp):zTH.mu t=List.contains (α:=Nat) [] t:=(rfl)
theorem zho:zf Tryz.prog zTH Tryz.f101=true:=by kernel_rfl
def zPi:Cfg:=zI [] []
theorem zdb (t:Tmp):zPi.mu t=List.contains (α:=Nat) [] t:=(rfl)
theorem zdc:zf Tryz.prog zPi Tryz.f107=true:=by kernel_rfl
def zMV:Cfg:=zI [] [(6,nr 0 11),(11,nr 0 12)]
theorem zES (t:Tmp):zMV.mu t=List.contains (α:=Nat) [] t:=(rfl)
theorem zZr:zf Tryz.prog zMV Tryz.f113=true:=by kernel_rfl
def zMW:Cfg:=zI [] []
theorem zK0 (t:Tmp):zMW.mu t=List.contains (α:=Nat) [] t:=(rfl)
theorem zdd:zf Tryz.prog zMW Tryz.f119=true:=by kernel_rfl
def zTI:Cfg:=zI [] []
theorem zde (t:Tmp):zTI.mu t=List.contains (α:=Nat) [] t:=(rfl)
theorem zhp:zf Tryz.prog zTI Tryz.f125=true:=by kernel_rfl
def zYA:Cfg:=zI [] [(4,nr 0 5)]
theorem zhq:zf Tryz.prog zYA Tryz.f133=true:=by kernel_rfl
def zYB:Cfg:=zI [] [(4,nr 0 17),(6,nr 0 18)]
theorem zhr:zf Tryz.prog zYB Tryz.f145=true:=by kernel_rfl
def zPj:Cfg:=zI [] []
theorem zhs (t:Tmp):zPj.mu t=List.contains (α:=Nat) [] t:=(rfl)
theorem zdf:zf Tryz.prog zPj Tryz.f151=true:=by kernel_rfl
def zJn:Cfg:=zI [] [(6,nr 0 19)]
theorem zHy (t:Tmp):zJn.mu t=List.contains (α:=Nat) [] t:=(rfl)
theorem zdg:zf Tryz.prog zJn Tryz.f157=true:=by kernel_rfl
def zPk:Cfg:=zI [] [(17,nr 0 17)]
theorem zZs (t:Tmp):zPk.mu t=List.contains (α:=Nat) [] t:=(rfl)
theorem zdh:zf Tryz.prog zPk Tryz.f163=true:=by kernel_rfl
def zPl:Cfg:=zI [] []
theorem zV8 (t:Tmp):zPl.mu t=List.contains (α:=Nat) [] t:=(rfl)
theorem zdi:zf Tryz.prog zPl Tryz.f169=true:=by kernel_rfl
def zTJ:Cfg:=zI [] []
theorem zht (t:Tmp):zTJ.mu t=List.contains (α:=Nat) [] t:=(rfl)
theorem zhu:zf Tryz.prog zTJ Tryz.f175=true:=by kernel_rfl
def zTK:Cfg:=zI [] []
theorem zdj (t:Tmp):zTK.mu t=List.contains (α:=Nat) [] t:=(rfl)
theorem zhv:zf Tryz.prog zTK Tryz.f181=true:=by kernel_rfl
def zPm:Cfg:=zI [] [(1,nr 0 9),(4,[(4, .no)]++nr 0 4++nr 5 18++ [(25, .no),(23, .no),(24, .no)])]
theorem zGr (t:Tmp):zPm.mu t=List.contains (α:=Nat) [] t:=(rfl)
theorem zdk:zf Tryz.prog zPm Tryz.f201=true:=by kernel_rfl
def zPn:Cfg:=zI [] []
theorem zhw (t:Tmp):zPn.mu t=List.contains (α:=Nat) [] t:=(rfl)
theorem zdl:zf Tryz.prog zPn Tryz.f207=true:=by kernel_rfl
def zYC:Cfg:=zI [] []
theorem zhx:zf Tryz.prog zYC Tryz.f220=true:=by kernel_rfl
def zTL:Cfg:=zI [] []
theorem zhy (t:Tmp):zTL.mu t=List.contains (α:=Nat) [] t:=(rfl)
theorem zhz:zf Tryz.prog zTL Tryz.f238=true:=by kernel_rfl
def zPo:Cfg:=zI [] []
theorem zK1 (t:Tmp):zPo.mu t=List.contains (α:=Nat) [] t:=(rfl)
theorem zdm:zf Tryz.prog zPo Tryz.f265=true:=by kernel_rfl
def zTM:Cfg:=zI [] [(11,nr 0 20),(16,nr 0 12)]
theorem zHz (t:Tmp):zTM.mu t=List.contains (α:=Nat) [] t:=(rfl)
theorem zh0:zf Tryz.prog zTM Tryz.f314=true:=by kernel_rfl
def zTN:Cfg:=zI [] []
theorem zdn:zf Tryz.prog zTN Tryz.f320=true:=by kernel_rfl
def zTO:Cfg:=zI [] []
theorem zV9 (t:Tmp):zTO.mu t=List.contains (α:=Nat) [] t:=(rfl)
theorem zh1:zf Tryz.prog zTO Tryz.f338=true:=by kernel_rfl
def zh2:Cfg:=zI [107] [(8,[(0, .st)]++nr 1 5++ [(6, .st)]++nr 7 6)]
theorem mu6 (t:Tmp):zh2.mu t=List.contains (α:=Nat) [107] t:=(rfl)
theorem ok6:zf Tryz.prog zh2 Tryz.f6=true:=by kernel_rfl
def zdo:Cfg:=zI [] []
theorem zk6:zf Tryz.prog zdo Tryz.f12=true:=by kernel_rfl
def zdp:Cfg:=zI [] []
theorem zk7:zf Tryz.prog zdp Tryz.f18=true:=by kernel_rfl
def zWA:Cfg:=zI [] []
theorem zTP (t:Tmp):zWA.mu t=List.contains (α:=Nat) [] t:=(rfl)
theorem zj7:zf Tryz.prog zWA Tryz.f24=true:=by kernel_rfl
def zWB:Cfg:=zI [] []
theorem zgH (t:Tmp):zWB.mu t=List.contains (α:=Nat) [] t:=(rfl)
theorem zj8:zf Tryz.prog zWB Tryz.f36=true:=by kernel_rfl
def zTQ:Cfg:=zI [] []
theorem zbt (t:Tmp):zTQ.mu t=List.contains (α:=Nat) [] t:=(rfl)
theorem zj9:zf Tryz.prog zTQ Tryz.f42=true:=by kernel_rfl
def zWC:Cfg:=zI [] []
theorem zh3 (t:Tmp):zWC.mu t=List.contains (α:=Nat) [] t:=(rfl)
theorem zkA:zf Tryz.prog zWC Tryz.f48=true:=by kernel_rfl
def zdq:Cfg:=zI [] []
theorem zk8:zf Tryz.prog zdq Tryz.f54=true:=by kernel_rfl
def zdr:Cfg:=zI [] []
theorem zk9:zf Tryz.prog zdr Tryz.f60=true:=by kernel_rfl
def zZt:Cfg:=zI [] []
theorem zkB (t:Tmp):zZt.mu t=List.contains (α:=Nat) [] t:=(rfl)
theorem zlA:zf Tryz.prog zZt Tryz.f66=true:=by kernel_rfl
def zWD:Cfg:=zI [] [(6,nr 0 9)]
theorem zYD (t:Tmp):zWD.mu t=List.contains (α:=Nat) [] t:=(rfl)
theorem zkC:zf Tryz.prog zWD Tryz.f72=true:=by kernel_rfl
def zTR:Cfg:=zI [] []
theorem zVN (t:Tmp):zTR.mu t=List.contains (α:=Nat) [] t:=(rfl)
theorem zkD:zf Tryz.prog zTR Tryz.f78=true:=by kernel_rfl
def zds:Cfg:=zI [] []
theorem zlB:zf Tryz.prog zds Tryz.f84=true:=by kernel_rfl
def zdt:Cfg:=zI [] []
theorem zlC:zf Tryz.prog zdt Tryz.f90=true:=by kernel_rfl
def zdu:Cfg:=zI [] []
theorem zlD:zf Tryz.prog zdu Tryz.f96=true:=by kernel_rfl
def zPp:Cfg:=zI [] []
theorem zOH (t:Tmp):zPp.mu t=List.contains (α:=Nat) [] t:=(rfl)
theorem zdv:zf Tryz.prog zPp Tryz.f102=true:=by kernel_rfl
def zPq:Cfg:=zI [16] [(2,[(0, .st),(1, .no),(2, .st)]++nr 3 6)]
theorem zWE (t:Tmp):zPq.mu t=List.contains (α:=Nat) [16] t:=(rfl)
theorem zdw:zf Tryz.prog zPq Tryz.f108=true:=by kernel_rfl
def zPr:Cfg:=zI [] []
theorem zOI (t:Tmp):zPr.mu t=List.contains (α:=Nat) [] t:=(rfl)
theorem zdx:zf Tryz.prog zPr Tryz.f114=true:=by kernel_rfl
def zPs:Cfg:=zI [] []
theorem zh4 (t:Tmp):zPs.mu t=List.contains (α:=Nat) [] t:=(rfl)
theorem zdy:zf Tryz.prog zPs Tryz.f120=true:=by kernel_rfl
def zTS:Cfg:=zI [] []
theorem zWF (t:Tmp):zTS.mu t=List.contains (α:=Nat) [] t:=(rfl)
theorem zh5:zf Tryz.prog zTS Tryz.f126=true:=by kernel_rfl
def zYE:Cfg:=zI [] []
theorem zh6:zf Tryz.prog zYE Tryz.f134=true:=by kernel_rfl
def zYF:Cfg:=zI [] [(4,nr 0 17),(6,nr 0 18)]
theorem zh7:zf Tryz.prog zYF Tryz.f140=true:=by kernel_rfl
def zTT:Cfg:=zI [] [(4,nr 0 10)]
theorem zOJ (t:Tmp):zTT.mu t=List.contains (α:=Nat) [] t:=(rfl)
theorem zh8:zf Tryz.prog zTT Tryz.f152=true:=by kernel_rfl
def zJo:Cfg:=zI [] [(3,nr 0 10),(6,[(0, .no),(9, .no)]++nr 1 8++nr 10 10),(7,nr 0 34),(8,[(0, .no),(1, .no),(8, .no)]++nr 2 6++nr 9 7)]
theorem zE9 (t:Tmp):zJo.mu t=List.contains (α:=Nat) [] t:=(rfl)
theorem zdz:zf Tryz.prog zJo Tryz.f158=true:=by kernel_rfl
def zPt:Cfg:=zI [] []
theorem zh9 (t:Tmp):zPt.mu t=List.contains (α:=Nat) [] t:=(rfl)
theorem zd0:zf Tryz.prog zPt Tryz.f164=true:=by kernel_rfl
def zPu:Cfg:=zI [] []
theorem ziA (t:Tmp):zPu.mu t=List.contains (α:=Nat) [] t:=(rfl)
theorem zd1:zf Tryz.prog zPu Tryz.f170=true:=by kernel_rfl
def zTU:Cfg:=zI [] [(1,nr 0 4++ [(5, .no),(6, .st),(7, .no),(8, .st),(4, .no)]++nr 9 4)]
theorem zd2 (t:Tmp):zTU.mu t=List.contains (α:=Nat) [] t:=(rfl)
theorem ziB:zf Tryz.prog zTU Tryz.f176=true:=by kernel_rfl
def zPv:Cfg:=zI [2] []
theorem zTV (t:Tmp):zPv.mu t=List.contains (α:=Nat) [2] t:=(rfl)
theorem ziC:zf Tryz.prog zPv Tryz.f182=true:=by kernel_rfl
def zTW:Cfg:=zI [] []
theorem ziD (t:Tmp):zTW.mu t=List.contains (α:=Nat) [] t:=(rfl)
theorem ziE:zf Tryz.prog zTW Tryz.f202=true:=by kernel_rfl
def zPw:Cfg:=zI [] [(1,[(2, .no),(6, .no),(0, .no),(1, .no)]++nr 3 3++nr 7 5)]
theorem zd3 (t:Tmp):zPw.mu t=List.contains (α:=Nat) [] t:=(rfl)
theorem zd4:zf Tryz.prog zPw Tryz.f208=true:=by kernel_rfl
def zPx:Cfg:=zI [] [(4,nr 0 17),(6,nr 0 18)]
theorem zZu (t:Tmp):zPx.mu t=List.contains (α:=Nat) [] t:=(rfl)
theorem zd5:zf Tryz.prog zPx Tryz.f221=true:=by kernel_rfl
def zTX:Cfg:=zI [] []
theorem zB7 (t:Tmp):zTX.mu t=List.contains (α:=Nat) [] t:=(rfl)
theorem ziF:zf Tryz.prog zTX Tryz.f260=true:=by kernel_rfl
def zPy:Cfg:=zI [] []
theorem zd6 (t:Tmp):zPy.mu t=List.contains (α:=Nat) [] t:=(rfl)
theorem zd7:zf Tryz.prog zPy Tryz.f266=true:=by kernel_rfl
def zTY:Cfg:=zI [] [(11,nr 0 8),(16,nr 0 12),(18,nr 0 3++ [(9, .no)]++nr 3 6++nr 10 3)]
theorem zGs (t:Tmp):zTY.mu t=List.contains (α:=Nat) [] t:=(rfl)
theorem ziG:zf Tryz.prog zTY Tryz.f315=true:=by kernel_rfl
def zTZ:Cfg:=zI [] []
theorem ziH (t:Tmp):zTZ.mu t=List.contains (α:=Nat) [] t:=(rfl)
theorem ziI:zf Tryz.prog zTZ Tryz.f339=true:=by kernel_rfl
def zd8:Cfg:=zI [] []
theorem zlE:zf Tryz.prog zd8 Tryz.f13=true:=by kernel_rfl
def zZv:Cfg:=zI [] [(13,nr 0 12),(17,nr 0 11),(19,[(1, .no),(0, .no),(2, .no),(3, .no)])]
theorem zK2 (t:Tmp):zZv.mu t=List.contains (α:=Nat) [] t:=(rfl)
theorem zlF:zf Tryz.prog zZv Tryz.f25=true:=by kernel_rfl
def zWG:Cfg:=zI [] []
theorem zZw (t:Tmp):zWG.mu t=List.contains (α:=Nat) [] t:=(rfl)
theorem zkE:zf Tryz.prog zWG Tryz.f37=true:=by kernel_rfl
def zZx:Cfg:=zI [] []
theorem zkF:zf Tryz.prog zZx Tryz.f49=true:=by kernel_rfl
def zd9:Cfg:=zI [] []
theorem zlG:zf Tryz.prog zd9 Tryz.f55=true:=by kernel_rfl
def zZy:Cfg:=zI [] [(1,nr 0 4++ [(5, .no),(6, .st),(7, .no),(8, .st),(10, .no),(11, .st),(12, .no),(13, .st),(15, .no),(16, .st),(17, .no),(18, .st),(4, .no),(9, .no),(14, .no)]++nr 19 4)]
theorem zkG (t:Tmp):zZy.mu t=List.contains (α:=Nat) [] t:=(rfl)
theorem zlH:zf Tryz.prog zZy Tryz.f61=true:=by kernel_rfl
def zZz:Cfg:=zI [] []
theorem zlI (t:Tmp):zZz.mu t=List.contains (α:=Nat) [] t:=(rfl)
theorem zlJ:zf Tryz.prog zZz Tryz.f67=true:=by kernel_rfl
def zWH:Cfg:=zI [] []
theorem zlK (t:Tmp):zWH.mu t=List.contains (α:=Nat) [] t:=(rfl)
theorem zkH:zf Tryz.prog zWH Tryz.f73=true:=by kernel_rfl
def zRE:Cfg:=zI [] []
theorem zH0 (t:Tmp):zRE.mu t=List.contains (α:=Nat) [] t:=(rfl)
theorem zgI:zf Tryz.prog zRE Tryz.f79=true:=by kernel_rfl
def zeA:Cfg:=zI [] []
theorem zlL:zf Tryz.prog zeA Tryz.f85=true:=by kernel_rfl
def zWI:Cfg:=zI [] []
theorem zlM (t:Tmp):zWI.mu t=List.contains (α:=Nat) [] t:=(rfl)
theorem zkI:zf Tryz.prog zWI Tryz.f91=true:=by kernel_rfl
def zWJ:Cfg:=zI [] [(14,nr 0 13)]
theorem zEg (t:Tmp):zWJ.mu t=List.contains (α:=Nat) [] t:=(rfl)
theorem zkJ:zf Tryz.prog zWJ Tryz.f97=true:=by kernel_rfl
def zTa:Cfg:=zI [] [(10,nr 0 12)]
theorem zMX (t:Tmp):zTa.mu t=List.contains (α:=Nat) [] t:=(rfl)
theorem ziJ:zf Tryz.prog zTa Tryz.f103=true:=by kernel_rfl
def zPz:Cfg:=zI [7] []
theorem ziK (t:Tmp):zPz.mu t=List.contains (α:=Nat) [7] t:=(rfl)
theorem zeB:zf Tryz.prog zPz Tryz.f109=true:=by kernel_rfl
def zP0:Cfg:=zI [] []
theorem ziL (t:Tmp):zP0.mu t=List.contains (α:=Nat) [] t:=(rfl)
theorem zeC:zf Tryz.prog zP0 Tryz.f115=true:=by kernel_rfl
def zP1:Cfg:=zI [] []
theorem zeD (t:Tmp):zP1.mu t=List.contains (α:=Nat) [] t:=(rfl)
theorem zeE:zf Tryz.prog zP1 Tryz.f121=true:=by kernel_rfl
def zYG:Cfg:=zI [] []
theorem ziM:zf Tryz.prog zYG Tryz.f135=true:=by kernel_rfl
def zP2:Cfg:=zI [] []
theorem zeF (t:Tmp):zP2.mu t=List.contains (α:=Nat) [] t:=(rfl)
theorem zeG:zf Tryz.prog zP2 Tryz.f147=true:=by kernel_rfl
def zP3:Cfg:=zI [] [(4,nr 0 10)]
theorem zOK (t:Tmp):zP3.mu t=List.contains (α:=Nat) [] t:=(rfl)
theorem zeH:zf Tryz.prog zP3 Tryz.f153=true:=by kernel_rfl
def zJp:Cfg:=zI [] [(3,[(0, .no),(4, .no),(8, .no)]++nr 1 3++nr 5 3++nr 9 9),(4,nr 0 4++ [(7, .no)]++nr 4 3++nr 8 6)]
theorem zFx (t:Tmp):zJp.mu t=List.contains (α:=Nat) [] t:=(rfl)
theorem zeI:zf Tryz.prog zJp Tryz.f159=true:=by kernel_rfl
def zTb:Cfg:=zI [] []
theorem zeJ:zf Tryz.prog zTb Tryz.f165=true:=by kernel_rfl
def zP4:Cfg:=zI [] []
theorem zMY (t:Tmp):zP4.mu t=List.contains (α:=Nat) [] t:=(rfl)
theorem zeK:zf Tryz.prog zP4 Tryz.f171=true:=by kernel_rfl
def zTc:Cfg:=zI [] [(6,nr 0 10),(11,nr 0 10)]
theorem zFA (t:Tmp):zTc.mu t=List.contains (α:=Nat) [] t:=(rfl)
theorem ziN:zf Tryz.prog zTc Tryz.f177=true:=by kernel_rfl
def zTd:Cfg:=zI [] []
theorem zMZ (t:Tmp):zTd.mu t=List.contains (α:=Nat) [] t:=(rfl)
theorem ziO:zf Tryz.prog zTd Tryz.f183=true:=by kernel_rfl
def zP5:Cfg:=zI [] []
theorem ziP (t:Tmp):zP5.mu t=List.contains (α:=Nat) [] t:=(rfl)
theorem zeL:zf Tryz.prog zP5 Tryz.f203=true:=by kernel_rfl
def zTe:Cfg:=zI [] []
theorem ziQ (t:Tmp):zTe.mu t=List.contains (α:=Nat) [] t:=(rfl)
theorem ziR:zf Tryz.prog zTe Tryz.f209=true:=by kernel_rfl
def zYH:Cfg:=zI [] []
theorem ziS:zf Tryz.prog zYH Tryz.f252=true:=by kernel_rfl
def zTf:Cfg:=zI [] []
theorem zTg (t:Tmp):zTf.mu t=List.contains (α:=Nat) [] t:=(rfl)
theorem ziT:zf Tryz.prog zTf Tryz.f261=true:=by kernel_rfl
def zTh:Cfg:=zI [] [(4,nr 0 9++ [(15, .no)]++nr 9 6++nr 16 4)]
theorem zWK (t:Tmp):zTh.mu t=List.contains (α:=Nat) [] t:=(rfl)
theorem ziU:zf Tryz.prog zTh Tryz.f316=true:=by kernel_rfl
def zTi:Cfg:=zI [] []
theorem ziV (t:Tmp):zTi.mu t=List.contains (α:=Nat) [] t:=(rfl)
theorem ziW:zf Tryz.prog zTi Tryz.f340=true:=by kernel_rfl
def zkK:Cfg:=zI [] [(9,nr 0 51++ [(52, .no),(53, .no),(51, .no)]++nr 54 5++ [(60, .no),(59, .no)]++nr 61 7)]
theorem ok8:zf Tryz.prog zkK Tryz.f8=true:=by kernel_rfl
def zWL:Cfg:=zI [] []
theorem zgJ (t:Tmp):zWL.mu t=List.contains (α:=Nat) [] t:=(rfl)
theorem zkL:zf Tryz.prog zWL Tryz.f14=true:=by kernel_rfl
def zeM:Cfg:=zI [] [(6,nr 0 9)]
theorem zlN:zf Tryz.prog zeM Tryz.f20=true:=by kernel_rfl
def zWM:Cfg:=zI [16] [(6,nr 0 17),(11,[(0, .no),(1, .st)]++nr 2 12),(16,nr 0 20)]
theorem zNe (t:Tmp):zWM.mu t=List.contains (α:=Nat) [16] t:=(rfl)
theorem zkM:zf Tryz.prog zWM Tryz.f38=true:=by kernel_rfl
def zeN:Cfg:=zI [] []
theorem zlO:zf Tryz.prog zeN Tryz.f44=true:=by kernel_rfl
def zWN:Cfg:=zI [] []
theorem zeO (t:Tmp):zWN.mu t=List.contains (α:=Nat) [] t:=(rfl)
theorem zkN:zf Tryz.prog zWN Tryz.f50=true:=by kernel_rfl
def zeP:Cfg:=zI [] []
theorem zlP:zf Tryz.prog zeP Tryz.f56=true:=by kernel_rfl
def zeQ:Cfg:=zI [] []
theorem zlQ:zf Tryz.prog zeQ Tryz.f62=true:=by kernel_rfl
def zWO:Cfg:=zI [] []
theorem zWP (t:Tmp):zWO.mu t=List.contains (α:=Nat) [] t:=(rfl)
theorem zkO:zf Tryz.prog zWO Tryz.f68=true:=by kernel_rfl
def zWQ:Cfg:=zI [] []
theorem zlR (t:Tmp):zWQ.mu t=List.contains (α:=Nat) [] t:=(rfl)
theorem zkP:zf Tryz.prog zWQ Tryz.f74=true:=by kernel_rfl
def zeR:Cfg:=zI [] [(7,nr 0 12),(9,nr 0 17),(11,nr 0 21)]
theorem zlS:zf Tryz.prog zeR Tryz.f86=true:=by kernel_rfl
def zeS:Cfg:=zI [] []
theorem zlT:zf Tryz.prog zeS Tryz.f92=true:=by kernel_rfl
def zWR:Cfg:=zI [] []
theorem zgK (t:Tmp):zWR.mu t=List.contains (α:=Nat) [] t:=(rfl)
theorem zkQ:zf Tryz.prog zWR Tryz.f98=true:=by kernel_rfl
def zP6:Cfg:=zI [] []
theorem zTj (t:Tmp):zP6.mu t=List.contains (α:=Nat) [] t:=(rfl)
theorem zeT:zf Tryz.prog zP6 Tryz.f104=true:=by kernel_rfl
def zYI:Cfg:=zI [] []
theorem ziX:zf Tryz.prog zYI Tryz.f110=true:=by kernel_rfl
def zP7:Cfg:=zI [] []
theorem zTk (t:Tmp):zP7.mu t=List.contains (α:=Nat) [] t:=(rfl)
theorem zeU:zf Tryz.prog zP7 Tryz.f116=true:=by kernel_rfl
def zTl:Cfg:=zI [44] []
theorem zH1 (t:Tmp):zTl.mu t=List.contains (α:=Nat) [44] t:=(rfl)
theorem ziY:zf Tryz.prog zTl Tryz.f122=true:=by kernel_rfl
def zP8:Cfg:=zI [] []
theorem zMa (t:Tmp):zP8.mu t=List.contains (α:=Nat) [] t:=(rfl)
theorem zeV:zf Tryz.prog zP8 Tryz.f128=true:=by kernel_rfl
def zYJ:Cfg:=zI [] []
theorem ziZ:zf Tryz.prog zYJ Tryz.f136=true:=by kernel_rfl
def zYK:Cfg:=zI [] [(4,nr 0 17),(6,nr 0 18)]
theorem zia:zf Tryz.prog zYK Tryz.f142=true:=by kernel_rfl
def zP9:Cfg:=zI [] []
theorem zeW (t:Tmp):zP9.mu t=List.contains (α:=Nat) [] t:=(rfl)
theorem zeX:zf Tryz.prog zP9 Tryz.f148=true:=by kernel_rfl
def zTm:Cfg:=zI [] [(11,nr 0 19)]
theorem zFy (t:Tmp):zTm.mu t=List.contains (α:=Nat) [] t:=(rfl)
theorem zib:zf Tryz.prog zTm Tryz.f154=true:=by kernel_rfl
def zMb:Cfg:=zI [] []
theorem zTn (t:Tmp):zMb.mu t=List.contains (α:=Nat) [] t:=(rfl)
theorem zeY:zf Tryz.prog zMb Tryz.f160=true:=by kernel_rfl
def zTo:Cfg:=zI [] []
theorem zeZ:zf Tryz.prog zTo Tryz.f166=true:=by kernel_rfl
def zQA:Cfg:=zI [] []
theorem zea (t:Tmp):zQA.mu t=List.contains (α:=Nat) [] t:=(rfl)
theorem zeb:zf Tryz.prog zQA Tryz.f172=true:=by kernel_rfl
def zTp:Cfg:=zI [] []
theorem zTq (t:Tmp):zTp.mu t=List.contains (α:=Nat) [] t:=(rfl)
theorem zic:zf Tryz.prog zTp Tryz.f198=true:=by kernel_rfl
def zQB:Cfg:=zI [] []
theorem zid (t:Tmp):zQB.mu t=List.contains (α:=Nat) [] t:=(rfl)
theorem zec:zf Tryz.prog zQB Tryz.f204=true:=by kernel_rfl
def zYL:Cfg:=zI [] [(4,nr 0 15),(6,nr 0 18)]
theorem zie:zf Tryz.prog zYL Tryz.f210=true:=by kernel_rfl
def zYM:Cfg:=zI [] []
theorem zif:zf Tryz.prog zYM Tryz.f216=true:=by kernel_rfl
def zTr:Cfg:=zI [] []
theorem zed:zf Tryz.prog zTr Tryz.f229=true:=by kernel_rfl
def zTs:Cfg:=zI [] []
theorem zOL (t:Tmp):zTs.mu t=List.contains (α:=Nat) [] t:=(rfl)
theorem zig:zf Tryz.prog zTs Tryz.f235=true:=by kernel_rfl
def zJq:Cfg:=zI [] [(4,[(0, .no),(4, .no)]++nr 1 3++nr 5 6)]
theorem zFz (t:Tmp):zJq.mu t=List.contains (α:=Nat) [] t:=(rfl)
theorem zee:zf Tryz.prog zJq Tryz.f262=true:=by kernel_rfl
def zTt:Cfg:=zI [] []
theorem zef:zf Tryz.prog zTt Tryz.f275=true:=by kernel_rfl
def zTu:Cfg:=zI [] []
theorem zTv (t:Tmp):zTu.mu t=List.contains (α:=Nat) [] t:=(rfl)
theorem zih:zf Tryz.prog zTu Tryz.f299=true:=by kernel_rfl
def zQC:Cfg:=zI [] []
theorem zii (t:Tmp):zQC.mu t=List.contains (α:=Nat) [] t:=(rfl)
theorem zeg:zf Tryz.prog zQC Tryz.f317=true:=by kernel_rfl
def zQD:Cfg:=zI [] [(4,nr 0 6)]
theorem zOM (t:Tmp):zQD.mu t=List.contains (α:=Nat) [] t:=(rfl)
theorem zeh:zf Tryz.prog zQD Tryz.f341=true:=by kernel_rfl
set_option maxRecDepth 100000
def tab:List (Nat× (Func×Cfg)):=[(8,(Tryz.f8,zkK)),(11,(Tryz.f11,zV3)),(12,(Tryz.f12,zdo)),(13,(Tryz.f13,zd8)),(14,(Tryz.f14,zWL)),(17,(Tryz.f17,zdZ)),(18,(Tryz.f18,zdp)),(20,(Tryz.f20,zeM)),(22,(Tryz.f22,zdH)),(24,(Tryz.f24,zWA)),(27,(Tryz.f27,zVr)),(29,(Tryz.f29,zZl)),(33,(Tryz.f33,zc6)),(36,(Tryz.f36,zWB)),(37,(Tryz.f37,zWG)),(38,(Tryz.f38,zWM)),(39,(Tryz.f39,zVs)),(40,(Tryz.f40,zVx)),(41,(Tryz.f41,zda)),(42,(Tryz.f42,zTQ)),(44,(Tryz.f44,zeN)),(45,(Tryz.f45,zVt)),(46,(Tryz.f46,zdI)),(47,(Tryz.f47,zV4)),(48,(Tryz.f48,zWC)),(49,(Tryz.f49,zZx)),(50,(Tryz.f50,zWN)),(53,(Tryz.f53,zZo)),(54,(Tryz.f54,zdq)),(55,(Tryz.f55,zd9)),(56,(Tryz.f56,zeP)),(57,(Tryz.f57,zVu)),(58,(Tryz.f58,zdJ)),(60,(Tryz.f60,zdr)),(62,(Tryz.f62,zeQ)),(64,(Tryz.f64,zVy)),(68,(Tryz.f68,zWO)),(69,(Tryz.f69,zVv)),(70,(Tryz.f70,zVz)),(71,(Tryz.f71,zV5)),(72,(Tryz.f72,zWD)),(73,(Tryz.f73,zWH)),(74,(Tryz.f74,zWQ)),(75,(Tryz.f75,zVw)),(76,(Tryz.f76,zV0)),(77,(Tryz.f77,zV6)),(78,(Tryz.f78,zTR)),(79,(Tryz.f79,zRE)),(82,(Tryz.f82,zV1)),(83,(Tryz.f83,zV7)),(84,(Tryz.f84,zds)),(85,(Tryz.f85,zeA)),(86,(Tryz.f86,zeR)),(88,(Tryz.f88,zdK)),(90,(Tryz.f90,zdt)),(91,(Tryz.f91,zWI)),(92,(Tryz.f92,zeS)),(93,(Tryz.f93,zc7)),(94,(Tryz.f94,zZk)),(95,(Tryz.f95,zZq)),(96,(Tryz.f96,zdu)),(97,(Tryz.f97,zWJ)),(98,(Tryz.f98,zWR)),(100,(Tryz.f100,zPa)),(104,(Tryz.f104,zP6)),(105,(Tryz.f105,zPX)),(106,(Tryz.f106,zPb)),(107,(Tryz.f107,zPi)),(108,(Tryz.f108,zPq)),(109,(Tryz.f109,zPz)),(110,(Tryz.f110,zYI)),(111,(Tryz.f111,zPY)),(112,(Tryz.f112,zPc)),(113,(Tryz.f113,zMV)),(114,(Tryz.f114,zPr)),(115,(Tryz.f115,zP0)),(116,(Tryz.f116,zP7)),(117,(Tryz.f117,zSt)),(118,(Tryz.f118,zPd)),(119,(Tryz.f119,zMW)),(120,(Tryz.f120,zPs)),(121,(Tryz.f121,zP1)),(128,(Tryz.f128,zP8)),(130,(Tryz.f130,zX4)),(132,(Tryz.f132,zS8)),(133,(Tryz.f133,zYA)),(134,(Tryz.f134,zYE)),(135,(Tryz.f135,zYG)),(136,(Tryz.f136,zYJ)),(137,(Tryz.f137,zX5)),(138,(Tryz.f138,zX8)),(140,(Tryz.f140,zYF)),(142,(Tryz.f142,zYK)),(144,(Tryz.f144,zS9)),(145,(Tryz.f145,zYB)),(147,(Tryz.f147,zP2)),(148,(Tryz.f148,zP9)),(151,(Tryz.f151,zPj)),(153,(Tryz.f153,zP3)),(155,(Tryz.f155,zMQ)),(156,(Tryz.f156,zMS)),(157,(Tryz.f157,zJn)),(158,(Tryz.f158,zJo)),(159,(Tryz.f159,zJp)),(160,(Tryz.f160,zMb)),(161,(Tryz.f161,zX6)),(162,(Tryz.f162,zX9)),(163,(Tryz.f163,zPk)),(164,(Tryz.f164,zPt)),(165,(Tryz.f165,zTb)),(166,(Tryz.f166,zTo)),(167,(Tryz.f167,zSw)),(168,(Tryz.f168,zMT)),(169,(Tryz.f169,zPl)),(170,(Tryz.f170,zPu)),(171,(Tryz.f171,zP4)),(172,(Tryz.f172,zQA)),(190,(Tryz.f190,zX7)),(200,(Tryz.f200,zPe)),(201,(Tryz.f201,zPm)),(203,(Tryz.f203,zP5)),(204,(Tryz.f204,zQB)),(206,(Tryz.f206,zPf)),(207,(Tryz.f207,zPn)),(208,(Tryz.f208,zPw)),(210,(Tryz.f210,zYL)),(216,(Tryz.f216,zYM)),(220,(Tryz.f220,zYC)),(221,(Tryz.f221,zPx)),(229,(Tryz.f229,zTr)),(230,(Tryz.f230,zS1)),(231,(Tryz.f231,zPg)),(252,(Tryz.f252,zYH)),(262,(Tryz.f262,zJq)),(263,(Tryz.f263,zPZ)),(264,(Tryz.f264,zPh)),(265,(Tryz.f265,zPo)),(266,(Tryz.f266,zPy)),(275,(Tryz.f275,zTt)),(317,(Tryz.f317,zQC)),(320,(Tryz.f320,zTN)),(341,(Tryz.f341,zQD))]
theorem qI:zFs Tryz.prog tab:=⟨⟨Tryz.func8,ok8⟩,⟨Tryz.func11,zjz⟩,⟨Tryz.func12,zk6⟩,⟨Tryz.func13,zlE⟩,⟨Tryz.func14,zkL⟩,⟨Tryz.func17,zk0⟩,⟨Tryz.func18,zk7⟩,⟨Tryz.func20,zlN⟩,⟨Tryz.func22,zks⟩,⟨Tryz.func24,zj7⟩,⟨Tryz.func27,zjl⟩,⟨Tryz.func29,zj0⟩,⟨Tryz.func33,zkk⟩,⟨Tryz.func36,zj8⟩,⟨Tryz.func37,zkE⟩,⟨Tryz.func38,zkM⟩,⟨Tryz.func39,zjm⟩,⟨Tryz.func40,zjs⟩,⟨Tryz.func41,zk2⟩,⟨Tryz.func42,zj9⟩,⟨Tryz.func44,zlO⟩,⟨Tryz.func45,zjn⟩,⟨Tryz.func46,zkw⟩,⟨Tryz.func47,zj1⟩,⟨Tryz.func48,zkA⟩,⟨Tryz.func49,zkF⟩,⟨Tryz.func50,zkN⟩,⟨Tryz.func53,zj2⟩,⟨Tryz.func54,zk8⟩,⟨Tryz.func55,zlG⟩,⟨Tryz.func56,zlP⟩,⟨Tryz.func57,zjo⟩,⟨Tryz.func58,zkx⟩,⟨Tryz.func60,zk9⟩,⟨Tryz.func62,zlQ⟩,⟨Tryz.func64,zjt⟩,⟨Tryz.func68,zkO⟩,⟨Tryz.func69,zjq⟩,⟨Tryz.func70,zju⟩,⟨Tryz.func71,zj3⟩,⟨Tryz.func72,zkC⟩,⟨Tryz.func73,zkH⟩,⟨Tryz.func74,zkP⟩,⟨Tryz.func75,zjr⟩,⟨Tryz.func76,zjw⟩,⟨Tryz.func77,zj4⟩,⟨Tryz.func78,zkD⟩,⟨Tryz.func79,zgI⟩,⟨Tryz.func82,zjx⟩,⟨Tryz.func83,zj5⟩,⟨Tryz.func84,zlB⟩,⟨Tryz.func85,zlL⟩,⟨Tryz.func86,zlS⟩,⟨Tryz.func88,zkz⟩,⟨Tryz.func90,zlC⟩,⟨Tryz.func91,zkI⟩,⟨Tryz.func92,zlT⟩,⟨Tryz.func93,zkp⟩,⟨Tryz.func94,zjy⟩,⟨Tryz.func95,zj6⟩,⟨Tryz.func96,zlD⟩,⟨Tryz.func97,zkJ⟩,⟨Tryz.func98,zkQ⟩,⟨Tryz.func100,zdL⟩,⟨Tryz.func104,zeT⟩,⟨Tryz.func105,zc8⟩,⟨Tryz.func106,zdM⟩,⟨Tryz.func107,zdc⟩,⟨Tryz.func108,zdw⟩,⟨Tryz.func109,zeB⟩,⟨Tryz.func110,ziX⟩,⟨Tryz.func111,zc9⟩,⟨Tryz.func112,zdN⟩,⟨Tryz.func113,zZr⟩,⟨Tryz.func114,zdx⟩,⟨Tryz.func115,zeC⟩,⟨Tryz.func116,zeU⟩,⟨Tryz.func117,zdA⟩,⟨Tryz.func118,zdO⟩,⟨Tryz.func119,zdd⟩,⟨Tryz.func120,zdy⟩,⟨Tryz.func121,zeE⟩,⟨Tryz.func128,zeV⟩,⟨Tryz.func130,zhJ⟩,⟨Tryz.func132,zdP⟩,⟨Tryz.func133,zhq⟩,⟨Tryz.func134,zh6⟩,⟨Tryz.func135,ziM⟩,⟨Tryz.func136,ziZ⟩,⟨Tryz.func137,zhK⟩,⟨Tryz.func138,zhb⟩,⟨Tryz.func140,zh7⟩,⟨Tryz.func142,zia⟩,⟨Tryz.func144,zdQ⟩,⟨Tryz.func145,zhr⟩,⟨Tryz.func147,zeG⟩,⟨Tryz.func148,zeX⟩,⟨Tryz.func151,zdf⟩,⟨Tryz.func153,zeH⟩,⟨Tryz.func155,zdC⟩,⟨Tryz.func156,zdR⟩,⟨Tryz.func157,zdg⟩,⟨Tryz.func158,zdz⟩,⟨Tryz.func159,zeI⟩,⟨Tryz.func160,zeY⟩,⟨Tryz.func161,zhN⟩,⟨Tryz.func162,zhe⟩,⟨Tryz.func163,zdh⟩,⟨Tryz.func164,zd0⟩,⟨Tryz.func165,zeJ⟩,⟨Tryz.func166,zeZ⟩,⟨Tryz.func167,zdD⟩,⟨Tryz.func168,zdS⟩,⟨Tryz.func169,zdi⟩,⟨Tryz.func170,zd1⟩,⟨Tryz.func171,zeK⟩,⟨Tryz.func172,zeb⟩,⟨Tryz.func190,zhQ⟩,⟨Tryz.func200,zdT⟩,⟨Tryz.func201,zdk⟩,⟨Tryz.func203,zeL⟩,⟨Tryz.func204,zec⟩,⟨Tryz.func206,zdU⟩,⟨Tryz.func207,zdl⟩,⟨Tryz.func208,zd4⟩,⟨Tryz.func210,zie⟩,⟨Tryz.func216,zif⟩,⟨Tryz.func220,zhx⟩,⟨Tryz.func221,zd5⟩,⟨Tryz.func229,zed⟩,⟨Tryz.func230,zdF⟩,⟨Tryz.func231,zdW⟩,⟨Tryz.func252,ziS⟩,⟨Tryz.func262,zee⟩,⟨Tryz.func263,zdG⟩,⟨Tryz.func264,zdY⟩,⟨Tryz.func265,zdm⟩,⟨Tryz.func266,zd7⟩,⟨Tryz.func275,zef⟩,⟨Tryz.func317,zeg⟩,⟨Tryz.func320,zdn⟩,⟨Tryz.func341,zeh⟩,trivial⟩
theorem mix:Tryz.prog.follows .mixedOrders=true:=by kernel_rfl
end Go.V
end
