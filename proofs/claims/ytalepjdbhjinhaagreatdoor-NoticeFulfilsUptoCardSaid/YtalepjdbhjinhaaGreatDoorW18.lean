/- How functions of this program are read by the machine, part 1. No condition. -/
import Derived.Test.YtalepjdbhjinhaaGreatDoorW04
import Derived.KernelRfl
import Derived.Test.YtalepjdbhjinhaaGreatDoorProg
set_option linter.all false
noncomputable section
namespace Go.V
open Go.Proofs
def zdg:Cfg:=zF [] []
theorem ok9:zd Tryz.prog zdg Tryz.f9=true:=by kernel_rfl
def zaK:Cfg:=zF [] [(20,[(0, .no),(1, .st),(2, .no),(3, .st),(4, .no),(7, .no),(8, .st),(9, .no),(10, .st),(11, .no),(14, .no),(15, .st),(16, .no),(17, .st),(18, .no),(5, .st),(6, .st),(12, .st),(13, .st),(19, .st),(20, .st)]++nr 21 3)]
theorem zhL:zd Tryz.prog zaK Tryz.f21=true:=by kernel_rfl
def zXA:Cfg:=zF [] []
theorem zTG (t:Tmp):zXA.mu t=List.contains (α:=Nat) [] t:=(rfl)
theorem zhM:zd Tryz.prog zXA Tryz.f33=true:=by kernel_rfl
def zTH:Cfg:=zF [] []
theorem zJQ (t:Tmp):zTH.mu t=List.contains (α:=Nat) [] t:=(rfl)
theorem zgM:zd Tryz.prog zTH Tryz.f39=true:=by kernel_rfl
def zXB:Cfg:=zF [] []
theorem zgN:zd Tryz.prog zXB Tryz.f45=true:=by kernel_rfl
def zaL:Cfg:=zF [] [(1,nr 0 12)]
theorem zhN:zd Tryz.prog zaL Tryz.f51=true:=by kernel_rfl
def zXC:Cfg:=zF [] []
theorem zgO:zd Tryz.prog zXC Tryz.f60=true:=by kernel_rfl
def zaM:Cfg:=zF [] []
theorem zhO:zd Tryz.prog zaM Tryz.f72=true:=by kernel_rfl
def zXD:Cfg:=zF [] [(7,nr 0 26),(11,nr 0 26),(15,nr 0 18),(23,nr 0 18)]
theorem zGh (t:Tmp):zXD.mu t=List.contains (α:=Nat) [] t:=(rfl)
theorem zhP:zd Tryz.prog zXD Tryz.f78=true:=by kernel_rfl
def zaN:Cfg:=zF [] []
theorem zhQ:zd Tryz.prog zaN Tryz.f84=true:=by kernel_rfl
def zTI:Cfg:=zF [] []
theorem zhR (t:Tmp):zTI.mu t=List.contains (α:=Nat) [] t:=(rfl)
theorem zgP:zd Tryz.prog zTI Tryz.f90=true:=by kernel_rfl
def zXE:Cfg:=zF [] [(9,nr 0 25)]
theorem zct (t:Tmp):zXE.mu t=List.contains (α:=Nat) [] t:=(rfl)
theorem zhS:zd Tryz.prog zXE Tryz.f96=true:=by kernel_rfl
def zVA:Cfg:=zF [] []
theorem zdh:zd Tryz.prog zVA Tryz.f102=true:=by kernel_rfl
def zNQ:Cfg:=zF [31] []
theorem zdi (t:Tmp):zNQ.mu t=List.contains (α:=Nat) [31] t:=(rfl)
theorem zaO:zd Tryz.prog zNQ Tryz.f110=true:=by kernel_rfl
def zQT:Cfg:=zF [] []
theorem zaP:zd Tryz.prog zQT Tryz.f122=true:=by kernel_rfl
def zVB:Cfg:=zF [] [(8,nr 0 12),(10,nr 0 17),(14,nr 0 9++nr 10 4++ [(14, .st),(15, .no),(16, .no),(9, .no)]++nr 17 9)]
theorem zdj:zd Tryz.prog zVB Tryz.f128=true:=by kernel_rfl
def zNR:Cfg:=zF [] []
theorem zME (t:Tmp):zNR.mu t=List.contains (α:=Nat) [] t:=(rfl)
theorem zaQ:zd Tryz.prog zNR Tryz.f134=true:=by kernel_rfl
def zNS:Cfg:=zF [] []
theorem zaR (t:Tmp):zNS.mu t=List.contains (α:=Nat) [] t:=(rfl)
theorem zaS:zd Tryz.prog zNS Tryz.f140=true:=by kernel_rfl
def zNT:Cfg:=zF [] [(4,nr 0 10)]
theorem zMF (t:Tmp):zNT.mu t=List.contains (α:=Nat) [] t:=(rfl)
theorem zaT:zd Tryz.prog zNT Tryz.f146=true:=by kernel_rfl
def zQU:Cfg:=zF [] []
theorem zaU:zd Tryz.prog zQU Tryz.f164=true:=by kernel_rfl
def zVC:Cfg:=zF [] [(4,nr 0 17),(6,nr 0 18)]
theorem zdk:zd Tryz.prog zVC Tryz.f171=true:=by kernel_rfl
def zQV:Cfg:=zF [] []
theorem zaV:zd Tryz.prog zQV Tryz.f177=true:=by kernel_rfl
def zQW:Cfg:=zF [] [(11,nr 0 19)]
theorem zEn (t:Tmp):zQW.mu t=List.contains (α:=Nat) [] t:=(rfl)
theorem zdl:zd Tryz.prog zQW Tryz.f183=true:=by kernel_rfl
def zKl:Cfg:=zF [] []
theorem zHf (t:Tmp):zKl.mu t=List.contains (α:=Nat) [] t:=(rfl)
theorem zaW:zd Tryz.prog zKl Tryz.f196=true:=by kernel_rfl
def zVD:Cfg:=zF [] []
theorem zdm:zd Tryz.prog zVD Tryz.f211=true:=by kernel_rfl
def zKm:Cfg:=zF [] []
theorem zJR (t:Tmp):zKm.mu t=List.contains (α:=Nat) [] t:=(rfl)
theorem zaX:zd Tryz.prog zKm Tryz.f225=true:=by kernel_rfl
def zQX:Cfg:=zF [] []
theorem zaY (t:Tmp):zQX.mu t=List.contains (α:=Nat) [] t:=(rfl)
theorem zdn:zd Tryz.prog zQX Tryz.f231=true:=by kernel_rfl
def zKn:Cfg:=zF [] []
theorem zQY (t:Tmp):zKn.mu t=List.contains (α:=Nat) [] t:=(rfl)
theorem zaZ:zd Tryz.prog zKn Tryz.f252=true:=by kernel_rfl
def zQZ:Cfg:=zF [] []
theorem zdo (t:Tmp):zQZ.mu t=List.contains (α:=Nat) [] t:=(rfl)
theorem zdp:zd Tryz.prog zQZ Tryz.f258=true:=by kernel_rfl
def zQa:Cfg:=zF [] []
theorem zdq (t:Tmp):zQa.mu t=List.contains (α:=Nat) [] t:=(rfl)
theorem zdr:zd Tryz.prog zQa Tryz.f264=true:=by kernel_rfl
def zQb:Cfg:=zF [] [(11,nr 0 20),(16,nr 0 12)]
theorem zGi (t:Tmp):zQb.mu t=List.contains (α:=Nat) [] t:=(rfl)
theorem zds:zd Tryz.prog zQb Tryz.f280=true:=by kernel_rfl
def zQc:Cfg:=zF [] []
theorem zQd (t:Tmp):zQc.mu t=List.contains (α:=Nat) [] t:=(rfl)
theorem zdt:zd Tryz.prog zQc Tryz.f295=true:=by kernel_rfl
def zQe:Cfg:=zF [] []
theorem zY8 (t:Tmp):zQe.mu t=List.contains (α:=Nat) [] t:=(rfl)
theorem zgQ:zd Tryz.prog zQe Tryz.f10=true:=by kernel_rfl
def zTJ:Cfg:=zF [] []
theorem zVE (t:Tmp):zTJ.mu t=List.contains (α:=Nat) [] t:=(rfl)
theorem zgR:zd Tryz.prog zTJ Tryz.f22=true:=by kernel_rfl
def zTK:Cfg:=zF [7] []
theorem zhT (t:Tmp):zTK.mu t=List.contains (α:=Nat) [7] t:=(rfl)
theorem zgS:zd Tryz.prog zTK Tryz.f28=true:=by kernel_rfl
def zXF:Cfg:=zF [] []
theorem zVF (t:Tmp):zXF.mu t=List.contains (α:=Nat) [] t:=(rfl)
theorem zhU:zd Tryz.prog zXF Tryz.f34=true:=by kernel_rfl
def zQf:Cfg:=zF [] []
theorem zgT (t:Tmp):zQf.mu t=List.contains (α:=Nat) [] t:=(rfl)
theorem zdu:zd Tryz.prog zQf Tryz.f40=true:=by kernel_rfl
def zaa:Cfg:=zF [33] []
theorem zhV:zd Tryz.prog zaa Tryz.f46=true:=by kernel_rfl
def zXG:Cfg:=zF [] [(7,nr 0 14)]
theorem zgU:zd Tryz.prog zXG Tryz.f55=true:=by kernel_rfl
def zab:Cfg:=zF [] []
theorem zhW:zd Tryz.prog zab Tryz.f61=true:=by kernel_rfl
def zTL:Cfg:=zF [] []
theorem zdv (t:Tmp):zTL.mu t=List.contains (α:=Nat) [] t:=(rfl)
theorem zgV:zd Tryz.prog zTL Tryz.f67=true:=by kernel_rfl
def zXH:Cfg:=zF [] [(1,nr 0 4++ [(5, .no),(6, .st),(7, .no),(8, .st),(4, .no)]++nr 9 4)]
theorem zgW (t:Tmp):zXH.mu t=List.contains (α:=Nat) [] t:=(rfl)
theorem zhX:zd Tryz.prog zXH Tryz.f73=true:=by kernel_rfl
def zXI:Cfg:=zF [] []
theorem zgX (t:Tmp):zXI.mu t=List.contains (α:=Nat) [] t:=(rfl)
theorem zhY:zd Tryz.prog zXI Tryz.f79=true:=by kernel_rfl
def zac:Cfg:=zF [] [(6,nr 0 10),(11,nr 0 10)]
theorem zhZ:zd Tryz.prog zac Tryz.f85=true:=by kernel_rfl
def zTM:Cfg:=zF [] []
theorem zha (t:Tmp):zTM.mu t=List.contains (α:=Nat) [] t:=(rfl)
theorem zgY:zd Tryz.prog zTM Tryz.f91=true:=by kernel_rfl
def zTN:Cfg:=zF [] [(16,nr 0 8++ [(13, .no)]++nr 8 5++nr 14 4)]
theorem zVG (t:Tmp):zTN.mu t=List.contains (α:=Nat) [] t:=(rfl)
theorem zgZ:zd Tryz.prog zTN Tryz.f97=true:=by kernel_rfl
def zVH:Cfg:=zF [] []
theorem zdw:zd Tryz.prog zVH Tryz.f103=true:=by kernel_rfl
def zVI:Cfg:=zF [] []
theorem zdx:zd Tryz.prog zVI Tryz.f111=true:=by kernel_rfl
def zVJ:Cfg:=zF [] []
theorem zdy:zd Tryz.prog zVJ Tryz.f117=true:=by kernel_rfl
def zVK:Cfg:=zF [] []
theorem zdz:zd Tryz.prog zVK Tryz.f123=true:=by kernel_rfl
def zVL:Cfg:=zF [] []
theorem zd0:zd Tryz.prog zVL Tryz.f129=true:=by kernel_rfl
def zNU:Cfg:=zF [] []
theorem zXJ (t:Tmp):zNU.mu t=List.contains (α:=Nat) [] t:=(rfl)
theorem zad:zd Tryz.prog zNU Tryz.f135=true:=by kernel_rfl
def zNV:Cfg:=zF [] []
theorem zae (t:Tmp):zNV.mu t=List.contains (α:=Nat) [] t:=(rfl)
theorem zaf:zd Tryz.prog zNV Tryz.f141=true:=by kernel_rfl
def zQg:Cfg:=zF [] []
theorem zag:zd Tryz.prog zQg Tryz.f147=true:=by kernel_rfl
def zVM:Cfg:=zF [] [(4,nr 0 5)]
theorem zd1:zd Tryz.prog zVM Tryz.f166=true:=by kernel_rfl
def zVN:Cfg:=zF [] [(4,nr 0 17),(6,nr 0 18)]
theorem zd2:zd Tryz.prog zVN Tryz.f178=true:=by kernel_rfl
def zVO:Cfg:=zF [] [(4,nr 0 15),(6,nr 0 18)]
theorem zd3:zd Tryz.prog zVO Tryz.f184=true:=by kernel_rfl
def zVP:Cfg:=zF [] []
theorem zd4:zd Tryz.prog zVP Tryz.f190=true:=by kernel_rfl
def zIK:Cfg:=zF [] []
theorem zAu (t:Tmp):zIK.mu t=List.contains (α:=Nat) [] t:=(rfl)
theorem zTO:zd Tryz.prog zIK Tryz.f197=true:=by kernel_rfl
def zNW:Cfg:=zF [] []
theorem zd5 (t:Tmp):zNW.mu t=List.contains (α:=Nat) [] t:=(rfl)
theorem zah:zd Tryz.prog zNW Tryz.f226=true:=by kernel_rfl
def zQh:Cfg:=zF [] []
theorem zTP (t:Tmp):zQh.mu t=List.contains (α:=Nat) [] t:=(rfl)
theorem zd6:zd Tryz.prog zQh Tryz.f232=true:=by kernel_rfl
def zNX:Cfg:=zF [] []
theorem zTQ (t:Tmp):zNX.mu t=List.contains (α:=Nat) [] t:=(rfl)
theorem zai:zd Tryz.prog zNX Tryz.f253=true:=by kernel_rfl
def zQi:Cfg:=zF [] []
theorem zd7 (t:Tmp):zQi.mu t=List.contains (α:=Nat) [] t:=(rfl)
theorem zd8:zd Tryz.prog zQi Tryz.f259=true:=by kernel_rfl
def zQj:Cfg:=zF [] []
theorem zaj (t:Tmp):zQj.mu t=List.contains (α:=Nat) [] t:=(rfl)
theorem zd9:zd Tryz.prog zQj Tryz.f265=true:=by kernel_rfl
def zQk:Cfg:=zF [] [(11,nr 0 8),(16,nr 0 12),(18,nr 0 3++ [(9, .no)]++nr 3 6++nr 10 3)]
theorem zFZ (t:Tmp):zQk.mu t=List.contains (α:=Nat) [] t:=(rfl)
theorem zeA:zd Tryz.prog zQk Tryz.f281=true:=by kernel_rfl
def zQl:Cfg:=zF [] []
theorem zMG (t:Tmp):zQl.mu t=List.contains (α:=Nat) [] t:=(rfl)
theorem zeB:zd Tryz.prog zQl Tryz.f287=true:=by kernel_rfl
def zQm:Cfg:=zF [] []
theorem zMH (t:Tmp):zQm.mu t=List.contains (α:=Nat) [] t:=(rfl)
theorem zeC:zd Tryz.prog zQm Tryz.f296=true:=by kernel_rfl
def zeD:Cfg:=zF [] []
theorem mu5 (t:Tmp):zeD.mu t=List.contains (α:=Nat) [] t:=(rfl)
theorem ok5:zd Tryz.prog zeD Tryz.f5=true:=by kernel_rfl
def zak:Cfg:=zF [] []
theorem zhb:zd Tryz.prog zak Tryz.f23=true:=by kernel_rfl
def zal:Cfg:=zF [17] [(7,nr 0 10)]
theorem zhc:zd Tryz.prog zal Tryz.f29=true:=by kernel_rfl
def zTR:Cfg:=zF [] []
theorem zPX (t:Tmp):zTR.mu t=List.contains (α:=Nat) [] t:=(rfl)
theorem zga:zd Tryz.prog zTR Tryz.f35=true:=by kernel_rfl
def zOs:Cfg:=zF [] [(7,nr 0 21)]
theorem zOt (t:Tmp):zOs.mu t=List.contains (α:=Nat) [] t:=(rfl)
theorem zcu:zd Tryz.prog zOs Tryz.f47=true:=by kernel_rfl
def zXK:Cfg:=zF [] []
theorem zgb:zd Tryz.prog zXK Tryz.f56=true:=by kernel_rfl
def zXL:Cfg:=zF [] []
theorem zgc:zd Tryz.prog zXL Tryz.f62=true:=by kernel_rfl
def zam:Cfg:=zF [] []
theorem zhd:zd Tryz.prog zam Tryz.f68=true:=by kernel_rfl
def zan:Cfg:=zF [] []
theorem zhe:zd Tryz.prog zan Tryz.f74=true:=by kernel_rfl
def zXM:Cfg:=zF [] []
theorem zhf (t:Tmp):zXM.mu t=List.contains (α:=Nat) [] t:=(rfl)
theorem zhg:zd Tryz.prog zXM Tryz.f80=true:=by kernel_rfl
def zTS:Cfg:=zF [] []
theorem zQn (t:Tmp):zTS.mu t=List.contains (α:=Nat) [] t:=(rfl)
theorem zgd:zd Tryz.prog zTS Tryz.f86=true:=by kernel_rfl
def zQo:Cfg:=zF [] []
theorem zJS (t:Tmp):zQo.mu t=List.contains (α:=Nat) [] t:=(rfl)
theorem zge:zd Tryz.prog zQo Tryz.f92=true:=by kernel_rfl
def zXN:Cfg:=zF [] [(9,nr 0 9++ [(14, .no)]++nr 9 5++nr 15 4)]
theorem zVQ (t:Tmp):zXN.mu t=List.contains (α:=Nat) [] t:=(rfl)
theorem zhh:zd Tryz.prog zXN Tryz.f98=true:=by kernel_rfl
def zVR:Cfg:=zF [] []
theorem zeE:zd Tryz.prog zVR Tryz.f106=true:=by kernel_rfl
def zVS:Cfg:=zF [] []
theorem zeF:zd Tryz.prog zVS Tryz.f112=true:=by kernel_rfl
def zNY:Cfg:=zF [] []
theorem zeG (t:Tmp):zNY.mu t=List.contains (α:=Nat) [] t:=(rfl)
theorem zao:zd Tryz.prog zNY Tryz.f118=true:=by kernel_rfl
def zVT:Cfg:=zF [] []
theorem zeH:zd Tryz.prog zVT Tryz.f124=true:=by kernel_rfl
def zNZ:Cfg:=zF [] []
theorem zMI (t:Tmp):zNZ.mu t=List.contains (α:=Nat) [] t:=(rfl)
theorem zap:zd Tryz.prog zNZ Tryz.f130=true:=by kernel_rfl
def zNa:Cfg:=zF [] []
theorem zQp (t:Tmp):zNa.mu t=List.contains (α:=Nat) [] t:=(rfl)
theorem zaq:zd Tryz.prog zNa Tryz.f136=true:=by kernel_rfl
def zQq:Cfg:=zF [] []
theorem zeI (t:Tmp):zQq.mu t=List.contains (α:=Nat) [] t:=(rfl)
theorem zeJ:zd Tryz.prog zQq Tryz.f142=true:=by kernel_rfl
def zVU:Cfg:=zF [] []
theorem zeK:zd Tryz.prog zVU Tryz.f149=true:=by kernel_rfl
def zVV:Cfg:=zF [] []
theorem zeL:zd Tryz.prog zVV Tryz.f167=true:=by kernel_rfl
def zVW:Cfg:=zF [] [(4,nr 0 17),(6,nr 0 18)]
theorem zeM:zd Tryz.prog zVW Tryz.f173=true:=by kernel_rfl
def zQr:Cfg:=zF [] []
theorem zQs (t:Tmp):zQr.mu t=List.contains (α:=Nat) [] t:=(rfl)
theorem zeN:zd Tryz.prog zQr Tryz.f198=true:=by kernel_rfl
def zNb:Cfg:=zF [] []
theorem zar (t:Tmp):zNb.mu t=List.contains (α:=Nat) [] t:=(rfl)
theorem zas:zd Tryz.prog zNb Tryz.f227=true:=by kernel_rfl
def zQt:Cfg:=zF [] []
theorem zat:zd Tryz.prog zQt Tryz.f240=true:=by kernel_rfl
def zQu:Cfg:=zF [] []
theorem zBF (t:Tmp):zQu.mu t=List.contains (α:=Nat) [] t:=(rfl)
theorem zeO:zd Tryz.prog zQu Tryz.f248=true:=by kernel_rfl
def zNc:Cfg:=zF [] []
theorem zeP (t:Tmp):zNc.mu t=List.contains (α:=Nat) [] t:=(rfl)
theorem zau:zd Tryz.prog zNc Tryz.f254=true:=by kernel_rfl
def zQv:Cfg:=zF [] [(1,nr 0 4++ [(5, .no),(6, .st),(7, .no),(8, .st),(4, .no)]++nr 9 4)]
theorem zav (t:Tmp):zQv.mu t=List.contains (α:=Nat) [] t:=(rfl)
theorem zeQ:zd Tryz.prog zQv Tryz.f260=true:=by kernel_rfl
def zNd:Cfg:=zF [2] []
theorem zQw (t:Tmp):zNd.mu t=List.contains (α:=Nat) [2] t:=(rfl)
theorem zeR:zd Tryz.prog zNd Tryz.f266=true:=by kernel_rfl
def zQx:Cfg:=zF [] [(4,nr 0 9++ [(15, .no)]++nr 9 6++nr 16 4)]
theorem zTT (t:Tmp):zQx.mu t=List.contains (α:=Nat) [] t:=(rfl)
theorem zeS:zd Tryz.prog zQx Tryz.f282=true:=by kernel_rfl
def zQy:Cfg:=zF [] []
theorem zeT (t:Tmp):zQy.mu t=List.contains (α:=Nat) [] t:=(rfl)
theorem zeU:zd Tryz.prog zQy Tryz.f288=true:=by kernel_rfl
def zQz:Cfg:=zF [] []
theorem zTU (t:Tmp):zQz.mu t=List.contains (α:=Nat) [] t:=(rfl)
theorem zeV:zd Tryz.prog zQz Tryz.f297=true:=by kernel_rfl
def zgf:Cfg:=zF [] []
theorem ok6:zd Tryz.prog zgf Tryz.f6=true:=by kernel_rfl
def zaw:Cfg:=zF [] []
theorem zhi:zd Tryz.prog zaw Tryz.f24=true:=by kernel_rfl
def zax:Cfg:=zF [] []
theorem zhj:zd Tryz.prog zax Tryz.f30=true:=by kernel_rfl
def zQ0:Cfg:=zF [] []
theorem zgg (t:Tmp):zQ0.mu t=List.contains (α:=Nat) [] t:=(rfl)
theorem zeW:zd Tryz.prog zQ0 Tryz.f36=true:=by kernel_rfl
def zTV:Cfg:=zF [] []
theorem zJT (t:Tmp):zTV.mu t=List.contains (α:=Nat) [] t:=(rfl)
theorem zgh:zd Tryz.prog zTV Tryz.f42=true:=by kernel_rfl
def zXO:Cfg:=zF [] []
theorem zgi:zd Tryz.prog zXO Tryz.f48=true:=by kernel_rfl
def zXP:Cfg:=zF [] []
theorem zgj:zd Tryz.prog zXP Tryz.f57=true:=by kernel_rfl
def zXQ:Cfg:=zF [] []
theorem zgk:zd Tryz.prog zXQ Tryz.f63=true:=by kernel_rfl
def zay:Cfg:=zF [] []
theorem zhk:zd Tryz.prog zay Tryz.f75=true:=by kernel_rfl
def zXR:Cfg:=zF [] [(12,nr 0 23)]
theorem zQ1 (t:Tmp):zXR.mu t=List.contains (α:=Nat) [] t:=(rfl)
theorem zhl:zd Tryz.prog zXR Tryz.f81=true:=by kernel_rfl
def zTW:Cfg:=zF [] []
theorem zhm (t:Tmp):zTW.mu t=List.contains (α:=Nat) [] t:=(rfl)
theorem zgl:zd Tryz.prog zTW Tryz.f87=true:=by kernel_rfl
def zQ2:Cfg:=zF [] []
theorem zgm (t:Tmp):zQ2.mu t=List.contains (α:=Nat) [] t:=(rfl)
theorem zeX:zd Tryz.prog zQ2 Tryz.f93=true:=by kernel_rfl
def zaz:Cfg:=zF [22] []
theorem zhn:zd Tryz.prog zaz Tryz.f99=true:=by kernel_rfl
def zQ3:Cfg:=zF [] []
theorem za0:zd Tryz.prog zQ3 Tryz.f107=true:=by kernel_rfl
def zVX:Cfg:=zF [] [(7,nr 0 12),(9,nr 0 17),(11,nr 0 21)]
theorem zeY:zd Tryz.prog zVX Tryz.f113=true:=by kernel_rfl
def zVY:Cfg:=zF [] []
theorem zeZ:zd Tryz.prog zVY Tryz.f119=true:=by kernel_rfl
def zNe:Cfg:=zF [] []
theorem zea (t:Tmp):zNe.mu t=List.contains (α:=Nat) [] t:=(rfl)
theorem za1:zd Tryz.prog zNe Tryz.f125=true:=by kernel_rfl
def zQ4:Cfg:=zF [] [(10,nr 0 12)]
theorem zKo (t:Tmp):zQ4.mu t=List.contains (α:=Nat) [] t:=(rfl)
theorem zeb:zd Tryz.prog zQ4 Tryz.f131=true:=by kernel_rfl
def zNf:Cfg:=zF [] []
theorem zQ5 (t:Tmp):zNf.mu t=List.contains (α:=Nat) [] t:=(rfl)
theorem za2:zd Tryz.prog zNf Tryz.f137=true:=by kernel_rfl
def zQ6:Cfg:=zF [] []
theorem zec (t:Tmp):zQ6.mu t=List.contains (α:=Nat) [] t:=(rfl)
theorem zed:zd Tryz.prog zQ6 Tryz.f143=true:=by kernel_rfl
def zQ7:Cfg:=zF [] []
theorem za3:zd Tryz.prog zQ7 Tryz.f161=true:=by kernel_rfl
def zVZ:Cfg:=zF [] []
theorem zee:zd Tryz.prog zVZ Tryz.f168=true:=by kernel_rfl
def zNg:Cfg:=zF [] []
theorem zQ8 (t:Tmp):zNg.mu t=List.contains (α:=Nat) [] t:=(rfl)
theorem za4:zd Tryz.prog zNg Tryz.f180=true:=by kernel_rfl
def zVa:Cfg:=zF [] []
theorem zef:zd Tryz.prog zVa Tryz.f199=true:=by kernel_rfl
def zQ9:Cfg:=zF [44] []
theorem zGj (t:Tmp):zQ9.mu t=List.contains (α:=Nat) [44] t:=(rfl)
theorem zeg:zd Tryz.prog zQ9 Tryz.f228=true:=by kernel_rfl
def zVb:Cfg:=zF [] []
theorem zeh:zd Tryz.prog zVb Tryz.f241=true:=by kernel_rfl
def zRA:Cfg:=zF [] []
theorem zRB (t:Tmp):zRA.mu t=List.contains (α:=Nat) [] t:=(rfl)
theorem zei:zd Tryz.prog zRA Tryz.f249=true:=by kernel_rfl
def zNh:Cfg:=zF [] []
theorem zKp (t:Tmp):zNh.mu t=List.contains (α:=Nat) [] t:=(rfl)
theorem za5:zd Tryz.prog zNh Tryz.f255=true:=by kernel_rfl
def zRC:Cfg:=zF [] [(6,nr 0 10),(11,nr 0 10)]
theorem zDx (t:Tmp):zRC.mu t=List.contains (α:=Nat) [] t:=(rfl)
theorem zej:zd Tryz.prog zRC Tryz.f261=true:=by kernel_rfl
def zRD:Cfg:=zF [] []
theorem zKq (t:Tmp):zRD.mu t=List.contains (α:=Nat) [] t:=(rfl)
theorem zek:zd Tryz.prog zRD Tryz.f267=true:=by kernel_rfl
def zNi:Cfg:=zF [] []
theorem za6 (t:Tmp):zNi.mu t=List.contains (α:=Nat) [] t:=(rfl)
theorem za7:zd Tryz.prog zNi Tryz.f283=true:=by kernel_rfl
def zRE:Cfg:=zF [] []
theorem zel (t:Tmp):zRE.mu t=List.contains (α:=Nat) [] t:=(rfl)
theorem zem:zd Tryz.prog zRE Tryz.f289=true:=by kernel_rfl
def zRF:Cfg:=zF [] []
theorem zen (t:Tmp):zRF.mu t=List.contains (α:=Nat) [] t:=(rfl)
theorem zeo:zd Tryz.prog zRF Tryz.f298=true:=by kernel_rfl
def zep:Cfg:=zF [] []
theorem mu7 (t:Tmp):zep.mu t=List.contains (α:=Nat) [] t:=(rfl)
theorem ok7:zd Tryz.prog zep Tryz.f7=true:=by kernel_rfl
def zXS:Cfg:=zF [] []
theorem zgn:zd Tryz.prog zXS Tryz.f19=true:=by kernel_rfl
def zXT:Cfg:=zF [] []
theorem zgo (t:Tmp):zXT.mu t=List.contains (α:=Nat) [] t:=(rfl)
theorem zho:zd Tryz.prog zXT Tryz.f25=true:=by kernel_rfl
def za8:Cfg:=zF [24] []
theorem zhp:zd Tryz.prog za8 Tryz.f31=true:=by kernel_rfl
def zTX:Cfg:=zF [] []
theorem zhq (t:Tmp):zTX.mu t=List.contains (α:=Nat) [] t:=(rfl)
theorem zgp:zd Tryz.prog zTX Tryz.f37=true:=by kernel_rfl
def zTY:Cfg:=zF [] []
theorem zcv (t:Tmp):zTY.mu t=List.contains (α:=Nat) [] t:=(rfl)
theorem zgq:zd Tryz.prog zTY Tryz.f43=true:=by kernel_rfl
def za9:Cfg:=zF [14] []
theorem zhr:zd Tryz.prog za9 Tryz.f49=true:=by kernel_rfl
def zXU:Cfg:=zF [] []
theorem zgr:zd Tryz.prog zXU Tryz.f58=true:=by kernel_rfl
def zbA:Cfg:=zF [] []
theorem zhs:zd Tryz.prog zbA Tryz.f64=true:=by kernel_rfl
def zbB:Cfg:=zF [] []
theorem zht:zd Tryz.prog zbB Tryz.f70=true:=by kernel_rfl
def zbC:Cfg:=zF [16] [(6,nr 0 17),(11,[(0, .no),(1, .st)]++nr 2 12),(16,nr 0 20)]
theorem zhu:zd Tryz.prog zbC Tryz.f76=true:=by kernel_rfl
def zXV:Cfg:=zF [] []
theorem zTZ (t:Tmp):zXV.mu t=List.contains (α:=Nat) [] t:=(rfl)
theorem zhv:zd Tryz.prog zXV Tryz.f82=true:=by kernel_rfl
def zTa:Cfg:=zF [] []
theorem zhw (t:Tmp):zTa.mu t=List.contains (α:=Nat) [] t:=(rfl)
theorem zgs:zd Tryz.prog zTa Tryz.f88=true:=by kernel_rfl
def zTb:Cfg:=zF [] []
theorem zOu (t:Tmp):zTb.mu t=List.contains (α:=Nat) [] t:=(rfl)
theorem zgt:zd Tryz.prog zTb Tryz.f94=true:=by kernel_rfl
def zRG:Cfg:=zF [] []
theorem zbD:zd Tryz.prog zRG Tryz.f100=true:=by kernel_rfl
def zRH:Cfg:=zF [] []
theorem zbE:zd Tryz.prog zRH Tryz.f108=true:=by kernel_rfl
def zVc:Cfg:=zF [] []
theorem zeq:zd Tryz.prog zVc Tryz.f120=true:=by kernel_rfl
def zNj:Cfg:=zF [7] []
theorem zer (t:Tmp):zNj.mu t=List.contains (α:=Nat) [7] t:=(rfl)
theorem zbF:zd Tryz.prog zNj Tryz.f126=true:=by kernel_rfl
def zVd:Cfg:=zF [] [(17,nr 0 15)]
theorem zes:zd Tryz.prog zVd Tryz.f132=true:=by kernel_rfl
def zNk:Cfg:=zF [] []
theorem zFa (t:Tmp):zNk.mu t=List.contains (α:=Nat) [] t:=(rfl)
theorem zbG:zd Tryz.prog zNk Tryz.f138=true:=by kernel_rfl
def zNl:Cfg:=zF [] []
theorem zet (t:Tmp):zNl.mu t=List.contains (α:=Nat) [] t:=(rfl)
theorem zbH:zd Tryz.prog zNl Tryz.f144=true:=by kernel_rfl
def zRI:Cfg:=zF [] []
theorem zbI:zd Tryz.prog zRI Tryz.f162=true:=by kernel_rfl
def zVe:Cfg:=zF [] []
theorem zeu:zd Tryz.prog zVe Tryz.f169=true:=by kernel_rfl
def zVf:Cfg:=zF [] [(4,nr 0 17),(6,nr 0 18)]
theorem zev:zd Tryz.prog zVf Tryz.f175=true:=by kernel_rfl
def zVg:Cfg:=zF [] [(3,nr 0 12)]
theorem zew:zd Tryz.prog zVg Tryz.f181=true:=by kernel_rfl
def zVh:Cfg:=zF [] []
theorem zex:zd Tryz.prog zVh Tryz.f194=true:=by kernel_rfl
def zRJ:Cfg:=zF [] []
theorem zbJ:zd Tryz.prog zRJ Tryz.f209=true:=by kernel_rfl
def zNm:Cfg:=zF [] []
theorem zey (t:Tmp):zNm.mu t=List.contains (α:=Nat) [] t:=(rfl)
theorem zbK:zd Tryz.prog zNm Tryz.f223=true:=by kernel_rfl
def zRK:Cfg:=zF [] []
theorem zbL (t:Tmp):zRK.mu t=List.contains (α:=Nat) [] t:=(rfl)
theorem zez:zd Tryz.prog zRK Tryz.f229=true:=by kernel_rfl
def zNn:Cfg:=zF [] []
theorem zbM (t:Tmp):zNn.mu t=List.contains (α:=Nat) [] t:=(rfl)
theorem zbN:zd Tryz.prog zNn Tryz.f256=true:=by kernel_rfl
def zRL:Cfg:=zF [] []
theorem ze0 (t:Tmp):zRL.mu t=List.contains (α:=Nat) [] t:=(rfl)
theorem ze1:zd Tryz.prog zRL Tryz.f290=true:=by kernel_rfl
def zRM:Cfg:=zF [] []
theorem ze2 (t:Tmp):zRM.mu t=List.contains (α:=Nat) [] t:=(rfl)
theorem ze3:zd Tryz.prog zRM Tryz.f299=true:=by kernel_rfl
def zRN:Cfg:=zF [] []
theorem zRO (t:Tmp):zRN.mu t=List.contains (α:=Nat) [] t:=(rfl)
theorem ze4:zd Tryz.prog zRN Tryz.f323=true:=by kernel_rfl
def zcw:Cfg:=zF [] [(17,[(0, .no),(1, .no),(3, .no),(4, .st),(6, .no),(7, .st),(2, .no),(9, .no),(5, .no),(8, .no)]++nr 10 5)]
theorem mu8 (t:Tmp):zcw.mu t=List.contains (α:=Nat) [] t:=(rfl)
theorem ok8:zd Tryz.prog zcw Tryz.f8=true:=by kernel_rfl
def zTc:Cfg:=zF [] []
theorem zcx (t:Tmp):zTc.mu t=List.contains (α:=Nat) [] t:=(rfl)
theorem zgu:zd Tryz.prog zTc Tryz.f14=true:=by kernel_rfl
def zRP:Cfg:=zF [] []
theorem zTd (t:Tmp):zRP.mu t=List.contains (α:=Nat) [] t:=(rfl)
theorem ze5:zd Tryz.prog zRP Tryz.f26=true:=by kernel_rfl
def zXW:Cfg:=zF [] [(7,nr 0 14),(14,[(1, .no),(0, .no)]++nr 2 8)]
theorem zJ8 (t:Tmp):zXW.mu t=List.contains (α:=Nat) [] t:=(rfl)
theorem zhx:zd Tryz.prog zXW Tryz.f32=true:=by kernel_rfl
def zXX:Cfg:=zF [] [(6,nr 0 9)]
theorem zgv:zd Tryz.prog zXX Tryz.f38=true:=by kernel_rfl
def zTe:Cfg:=zF [] []
theorem zbO (t:Tmp):zTe.mu t=List.contains (α:=Nat) [] t:=(rfl)
theorem zgw:zd Tryz.prog zTe Tryz.f44=true:=by kernel_rfl
def zbP:Cfg:=zF [] []
theorem zhy:zd Tryz.prog zbP Tryz.f50=true:=by kernel_rfl
def zXY:Cfg:=zF [] []
theorem zgx:zd Tryz.prog zXY Tryz.f59=true:=by kernel_rfl
def zbQ:Cfg:=zF [] []
theorem zhz:zd Tryz.prog zbQ Tryz.f65=true:=by kernel_rfl
def zTf:Cfg:=zF [] [(1,nr 0 4++ [(5, .no),(6, .st),(7, .no),(8, .st),(10, .no),(11, .st),(12, .no),(13, .st),(15, .no),(16, .st),(17, .no),(18, .st),(4, .no),(9, .no),(14, .no)]++nr 19 4)]
theorem zgy (t:Tmp):zTf.mu t=List.contains (α:=Nat) [] t:=(rfl)
theorem zgz:zd Tryz.prog zTf Tryz.f71=true:=by kernel_rfl
def zbR:Cfg:=zF [] []
theorem zh0:zd Tryz.prog zbR Tryz.f77=true:=by kernel_rfl
def zTg:Cfg:=zF [] []
theorem zh1 (t:Tmp):zTg.mu t=List.contains (α:=Nat) [] t:=(rfl)
theorem zg0:zd Tryz.prog zTg Tryz.f83=true:=by kernel_rfl
def zTh:Cfg:=zF [] [(6,nr 0 9)]
theorem zVi (t:Tmp):zTh.mu t=List.contains (α:=Nat) [] t:=(rfl)
theorem zg1:zd Tryz.prog zTh Tryz.f89=true:=by kernel_rfl
def zTi:Cfg:=zF [] [(14,nr 0 13)]
theorem zDX (t:Tmp):zTi.mu t=List.contains (α:=Nat) [] t:=(rfl)
theorem zg2:zd Tryz.prog zTi Tryz.f95=true:=by kernel_rfl
def zNo:Cfg:=zF [] []
theorem ze6 (t:Tmp):zNo.mu t=List.contains (α:=Nat) [] t:=(rfl)
theorem zbS:zd Tryz.prog zNo Tryz.f101=true:=by kernel_rfl
def zRQ:Cfg:=zF [] []
theorem zbT:zd Tryz.prog zRQ Tryz.f109=true:=by kernel_rfl
def zVj:Cfg:=zF [] [(3,[(0, .no),(1, .no),(2, .st),(4, .no),(5, .no),(6, .st),(9, .no),(10, .no),(11, .st),(14, .no),(15, .no),(16, .st),(3, .st),(7, .st),(8, .st),(12, .st),(13, .st),(17, .st)]++nr 18 3),(6,nr 0 7),(7,[(6, .no)]++nr 0 6++nr 7 6)]
theorem ze7:zd Tryz.prog zVj Tryz.f115=true:=by kernel_rfl
def zRR:Cfg:=zF [] []
theorem zbU:zd Tryz.prog zRR Tryz.f121=true:=by kernel_rfl
def zVk:Cfg:=zF [] []
theorem ze8:zd Tryz.prog zVk Tryz.f127=true:=by kernel_rfl
def zVl:Cfg:=zF [] []
theorem ze9:zd Tryz.prog zVl Tryz.f133=true:=by kernel_rfl
def zNp:Cfg:=zF [] []
theorem zKr (t:Tmp):zNp.mu t=List.contains (α:=Nat) [] t:=(rfl)
theorem zbV:zd Tryz.prog zNp Tryz.f139=true:=by kernel_rfl
def zRS:Cfg:=zF [] [(4,nr 0 10)]
theorem zMJ (t:Tmp):zRS.mu t=List.contains (α:=Nat) [] t:=(rfl)
theorem zfA:zd Tryz.prog zRS Tryz.f145=true:=by kernel_rfl
def zRT:Cfg:=zF [] []
theorem zbW:zd Tryz.prog zRT Tryz.f163=true:=by kernel_rfl
def zVm:Cfg:=zF [] []
theorem zfB:zd Tryz.prog zVm Tryz.f170=true:=by kernel_rfl
def zVn:Cfg:=zF [] [(4,nr 0 5)]
theorem zfC:zd Tryz.prog zVn Tryz.f182=true:=by kernel_rfl
def zNq:Cfg:=zF [] [(20,nr 0 12)]
theorem zEo (t:Tmp):zNq.mu t=List.contains (α:=Nat) [] t:=(rfl)
theorem zbX:zd Tryz.prog zNq Tryz.f195=true:=by kernel_rfl
def zRU:Cfg:=zF [] []
theorem zbY:zd Tryz.prog zRU Tryz.f210=true:=by kernel_rfl
def zRV:Cfg:=zF [] [(3,[(2, .no),(0, .no),(1, .st)]++nr 3 6)]
theorem zRW (t:Tmp):zRV.mu t=List.contains (α:=Nat) [] t:=(rfl)
theorem zfD:zd Tryz.prog zRV Tryz.f217=true:=by kernel_rfl
def zNr:Cfg:=zF [] []
theorem zRX (t:Tmp):zNr.mu t=List.contains (α:=Nat) [] t:=(rfl)
theorem zbZ:zd Tryz.prog zNr Tryz.f224=true:=by kernel_rfl
def zRY:Cfg:=zF [24] []
theorem zFb (t:Tmp):zRY.mu t=List.contains (α:=Nat) [24] t:=(rfl)
theorem zfE:zd Tryz.prog zRY Tryz.f230=true:=by kernel_rfl
def zNs:Cfg:=zF [] []
theorem zfF (t:Tmp):zNs.mu t=List.contains (α:=Nat) [] t:=(rfl)
theorem zba:zd Tryz.prog zNs Tryz.f251=true:=by kernel_rfl
def zRZ:Cfg:=zF [] []
theorem zfG (t:Tmp):zRZ.mu t=List.contains (α:=Nat) [] t:=(rfl)
theorem zfH:zd Tryz.prog zRZ Tryz.f263=true:=by kernel_rfl
def zRa:Cfg:=zF [] [(10,nr 0 14),(15,nr 0 20)]
theorem zGk (t:Tmp):zRa.mu t=List.contains (α:=Nat) [] t:=(rfl)
theorem zfI:zd Tryz.prog zRa Tryz.f279=true:=by kernel_rfl
def zRb:Cfg:=zF [] [(4,nr 0 6)]
theorem zMK (t:Tmp):zRb.mu t=List.contains (α:=Nat) [] t:=(rfl)
theorem zfJ:zd Tryz.prog zRb Tryz.f324=true:=by kernel_rfl
set_option maxRecDepth 100000
def tab:List (Nat× (Func×Cfg)):=[(6,(Tryz.f6,zgf)),(8,(Tryz.f8,zcw)),(9,(Tryz.f9,zdg)),(10,(Tryz.f10,zQe)),(14,(Tryz.f14,zTc)),(19,(Tryz.f19,zXS)),(21,(Tryz.f21,zaK)),(22,(Tryz.f22,zTJ)),(23,(Tryz.f23,zak)),(24,(Tryz.f24,zaw)),(26,(Tryz.f26,zRP)),(28,(Tryz.f28,zTK)),(29,(Tryz.f29,zal)),(30,(Tryz.f30,zax)),(31,(Tryz.f31,za8)),(35,(Tryz.f35,zTR)),(36,(Tryz.f36,zQ0)),(37,(Tryz.f37,zTX)),(38,(Tryz.f38,zXX)),(39,(Tryz.f39,zTH)),(40,(Tryz.f40,zQf)),(42,(Tryz.f42,zTV)),(43,(Tryz.f43,zTY)),(44,(Tryz.f44,zTe)),(45,(Tryz.f45,zXB)),(46,(Tryz.f46,zaa)),(47,(Tryz.f47,zOs)),(48,(Tryz.f48,zXO)),(49,(Tryz.f49,za9)),(50,(Tryz.f50,zbP)),(51,(Tryz.f51,zaL)),(55,(Tryz.f55,zXG)),(56,(Tryz.f56,zXK)),(57,(Tryz.f57,zXP)),(58,(Tryz.f58,zXU)),(59,(Tryz.f59,zXY)),(60,(Tryz.f60,zXC)),(62,(Tryz.f62,zXL)),(63,(Tryz.f63,zXQ)),(64,(Tryz.f64,zbA)),(65,(Tryz.f65,zbQ)),(67,(Tryz.f67,zTL)),(68,(Tryz.f68,zam)),(70,(Tryz.f70,zbB)),(71,(Tryz.f71,zTf)),(72,(Tryz.f72,zaM)),(74,(Tryz.f74,zan)),(75,(Tryz.f75,zay)),(76,(Tryz.f76,zbC)),(77,(Tryz.f77,zbR)),(83,(Tryz.f83,zTg)),(84,(Tryz.f84,zaN)),(85,(Tryz.f85,zac)),(86,(Tryz.f86,zTS)),(87,(Tryz.f87,zTW)),(88,(Tryz.f88,zTa)),(89,(Tryz.f89,zTh)),(90,(Tryz.f90,zTI)),(91,(Tryz.f91,zTM)),(92,(Tryz.f92,zQo)),(93,(Tryz.f93,zQ2)),(94,(Tryz.f94,zTb)),(95,(Tryz.f95,zTi)),(97,(Tryz.f97,zTN)),(99,(Tryz.f99,zaz)),(100,(Tryz.f100,zRG)),(101,(Tryz.f101,zNo)),(102,(Tryz.f102,zVA)),(103,(Tryz.f103,zVH)),(106,(Tryz.f106,zVR)),(107,(Tryz.f107,zQ3)),(108,(Tryz.f108,zRH)),(109,(Tryz.f109,zRQ)),(110,(Tryz.f110,zNQ)),(111,(Tryz.f111,zVI)),(112,(Tryz.f112,zVS)),(113,(Tryz.f113,zVX)),(115,(Tryz.f115,zVj)),(117,(Tryz.f117,zVJ)),(118,(Tryz.f118,zNY)),(119,(Tryz.f119,zVY)),(120,(Tryz.f120,zVc)),(121,(Tryz.f121,zRR)),(122,(Tryz.f122,zQT)),(123,(Tryz.f123,zVK)),(124,(Tryz.f124,zVT)),(125,(Tryz.f125,zNe)),(126,(Tryz.f126,zNj)),(127,(Tryz.f127,zVk)),(128,(Tryz.f128,zVB)),(129,(Tryz.f129,zVL)),(132,(Tryz.f132,zVd)),(133,(Tryz.f133,zVl)),(134,(Tryz.f134,zNR)),(135,(Tryz.f135,zNU)),(136,(Tryz.f136,zNa)),(137,(Tryz.f137,zNf)),(138,(Tryz.f138,zNk)),(139,(Tryz.f139,zNp)),(140,(Tryz.f140,zNS)),(141,(Tryz.f141,zNV)),(144,(Tryz.f144,zNl)),(146,(Tryz.f146,zNT)),(147,(Tryz.f147,zQg)),(149,(Tryz.f149,zVU)),(161,(Tryz.f161,zQ7)),(162,(Tryz.f162,zRI)),(163,(Tryz.f163,zRT)),(164,(Tryz.f164,zQU)),(166,(Tryz.f166,zVM)),(167,(Tryz.f167,zVV)),(168,(Tryz.f168,zVZ)),(169,(Tryz.f169,zVe)),(170,(Tryz.f170,zVm)),(171,(Tryz.f171,zVC)),(173,(Tryz.f173,zVW)),(175,(Tryz.f175,zVf)),(177,(Tryz.f177,zQV)),(178,(Tryz.f178,zVN)),(180,(Tryz.f180,zNg)),(181,(Tryz.f181,zVg)),(182,(Tryz.f182,zVn)),(184,(Tryz.f184,zVO)),(190,(Tryz.f190,zVP)),(194,(Tryz.f194,zVh)),(195,(Tryz.f195,zNq)),(196,(Tryz.f196,zKl)),(197,(Tryz.f197,zIK)),(199,(Tryz.f199,zVa)),(209,(Tryz.f209,zRJ)),(210,(Tryz.f210,zRU)),(211,(Tryz.f211,zVD)),(223,(Tryz.f223,zNm)),(224,(Tryz.f224,zNr)),(225,(Tryz.f225,zKm)),(226,(Tryz.f226,zNW)),(227,(Tryz.f227,zNb)),(240,(Tryz.f240,zQt)),(241,(Tryz.f241,zVb)),(251,(Tryz.f251,zNs)),(252,(Tryz.f252,zKn)),(253,(Tryz.f253,zNX)),(254,(Tryz.f254,zNc)),(255,(Tryz.f255,zNh)),(256,(Tryz.f256,zNn)),(283,(Tryz.f283,zNi))]
theorem yq:zEj Tryz.prog tab:=⟨⟨Tryz.func6,ok6⟩,⟨Tryz.func8,ok8⟩,⟨Tryz.func9,ok9⟩,⟨Tryz.func10,zgQ⟩,⟨Tryz.func14,zgu⟩,⟨Tryz.func19,zgn⟩,⟨Tryz.func21,zhL⟩,⟨Tryz.func22,zgR⟩,⟨Tryz.func23,zhb⟩,⟨Tryz.func24,zhi⟩,⟨Tryz.func26,ze5⟩,⟨Tryz.func28,zgS⟩,⟨Tryz.func29,zhc⟩,⟨Tryz.func30,zhj⟩,⟨Tryz.func31,zhp⟩,⟨Tryz.func35,zga⟩,⟨Tryz.func36,zeW⟩,⟨Tryz.func37,zgp⟩,⟨Tryz.func38,zgv⟩,⟨Tryz.func39,zgM⟩,⟨Tryz.func40,zdu⟩,⟨Tryz.func42,zgh⟩,⟨Tryz.func43,zgq⟩,⟨Tryz.func44,zgw⟩,⟨Tryz.func45,zgN⟩,⟨Tryz.func46,zhV⟩,⟨Tryz.func47,zcu⟩,⟨Tryz.func48,zgi⟩,⟨Tryz.func49,zhr⟩,⟨Tryz.func50,zhy⟩,⟨Tryz.func51,zhN⟩,⟨Tryz.func55,zgU⟩,⟨Tryz.func56,zgb⟩,⟨Tryz.func57,zgj⟩,⟨Tryz.func58,zgr⟩,⟨Tryz.func59,zgx⟩,⟨Tryz.func60,zgO⟩,⟨Tryz.func62,zgc⟩,⟨Tryz.func63,zgk⟩,⟨Tryz.func64,zhs⟩,⟨Tryz.func65,zhz⟩,⟨Tryz.func67,zgV⟩,⟨Tryz.func68,zhd⟩,⟨Tryz.func70,zht⟩,⟨Tryz.func71,zgz⟩,⟨Tryz.func72,zhO⟩,⟨Tryz.func74,zhe⟩,⟨Tryz.func75,zhk⟩,⟨Tryz.func76,zhu⟩,⟨Tryz.func77,zh0⟩,⟨Tryz.func83,zg0⟩,⟨Tryz.func84,zhQ⟩,⟨Tryz.func85,zhZ⟩,⟨Tryz.func86,zgd⟩,⟨Tryz.func87,zgl⟩,⟨Tryz.func88,zgs⟩,⟨Tryz.func89,zg1⟩,⟨Tryz.func90,zgP⟩,⟨Tryz.func91,zgY⟩,⟨Tryz.func92,zge⟩,⟨Tryz.func93,zeX⟩,⟨Tryz.func94,zgt⟩,⟨Tryz.func95,zg2⟩,⟨Tryz.func97,zgZ⟩,⟨Tryz.func99,zhn⟩,⟨Tryz.func100,zbD⟩,⟨Tryz.func101,zbS⟩,⟨Tryz.func102,zdh⟩,⟨Tryz.func103,zdw⟩,⟨Tryz.func106,zeE⟩,⟨Tryz.func107,za0⟩,⟨Tryz.func108,zbE⟩,⟨Tryz.func109,zbT⟩,⟨Tryz.func110,zaO⟩,⟨Tryz.func111,zdx⟩,⟨Tryz.func112,zeF⟩,⟨Tryz.func113,zeY⟩,⟨Tryz.func115,ze7⟩,⟨Tryz.func117,zdy⟩,⟨Tryz.func118,zao⟩,⟨Tryz.func119,zeZ⟩,⟨Tryz.func120,zeq⟩,⟨Tryz.func121,zbU⟩,⟨Tryz.func122,zaP⟩,⟨Tryz.func123,zdz⟩,⟨Tryz.func124,zeH⟩,⟨Tryz.func125,za1⟩,⟨Tryz.func126,zbF⟩,⟨Tryz.func127,ze8⟩,⟨Tryz.func128,zdj⟩,⟨Tryz.func129,zd0⟩,⟨Tryz.func132,zes⟩,⟨Tryz.func133,ze9⟩,⟨Tryz.func134,zaQ⟩,⟨Tryz.func135,zad⟩,⟨Tryz.func136,zaq⟩,⟨Tryz.func137,za2⟩,⟨Tryz.func138,zbG⟩,⟨Tryz.func139,zbV⟩,⟨Tryz.func140,zaS⟩,⟨Tryz.func141,zaf⟩,⟨Tryz.func144,zbH⟩,⟨Tryz.func146,zaT⟩,⟨Tryz.func147,zag⟩,⟨Tryz.func149,zeK⟩,⟨Tryz.func161,za3⟩,⟨Tryz.func162,zbI⟩,⟨Tryz.func163,zbW⟩,⟨Tryz.func164,zaU⟩,⟨Tryz.func166,zd1⟩,⟨Tryz.func167,zeL⟩,⟨Tryz.func168,zee⟩,⟨Tryz.func169,zeu⟩,⟨Tryz.func170,zfB⟩,⟨Tryz.func171,zdk⟩,⟨Tryz.func173,zeM⟩,⟨Tryz.func175,zev⟩,⟨Tryz.func177,zaV⟩,⟨Tryz.func178,zd2⟩,⟨Tryz.func180,za4⟩,⟨Tryz.func181,zew⟩,⟨Tryz.func182,zfC⟩,⟨Tryz.func184,zd3⟩,⟨Tryz.func190,zd4⟩,⟨Tryz.func194,zex⟩,⟨Tryz.func195,zbX⟩,⟨Tryz.func196,zaW⟩,⟨Tryz.func197,zTO⟩,⟨Tryz.func199,zef⟩,⟨Tryz.func209,zbJ⟩,⟨Tryz.func210,zbY⟩,⟨Tryz.func211,zdm⟩,⟨Tryz.func223,zbK⟩,⟨Tryz.func224,zbZ⟩,⟨Tryz.func225,zaX⟩,⟨Tryz.func226,zah⟩,⟨Tryz.func227,zas⟩,⟨Tryz.func240,zat⟩,⟨Tryz.func241,zeh⟩,⟨Tryz.func251,zba⟩,⟨Tryz.func252,zaZ⟩,⟨Tryz.func253,zai⟩,⟨Tryz.func254,zau⟩,⟨Tryz.func255,za5⟩,⟨Tryz.func256,zbN⟩,⟨Tryz.func283,za7⟩,trivial⟩
theorem mix:Tryz.prog.follows .mixedOrders=true:=by kernel_rfl
end Go.V
end
