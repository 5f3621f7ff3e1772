/- How functions of this program are read by the machine, part 1. No condition. -/
import Derived.Test.YtmhkjfajejaniaaGreatDoorW04
import Derived.KernelRfl
import Derived.Test.YtmhkjfajejaniaaGreatDoorProg
set_option linter.unusedSimpArgs false
set_option linter.unusedVariables false
set_option linter.constructorNameAsVariable false
set_option linter.deprecated false
namespace Go.V
open Go.Proofs
noncomputable def zga:Cfg:=zH [] [(8,[(0, .st)]++nr 1 5++ [(6, .st)]++nr 7 6),(14,nr 0 25++ [(27, .no),(25, .no),(26, .no)]++nr 28 5),(19,nr 0 3++ [(8, .no)]++nr 3 5++nr 9 5++ [(15, .no),(16, .no),(14, .no)]++nr 17 3)]
theorem mu3 (t:Tmp):zga.mu t=List.contains (α:=Nat) [] t:=(rfl)
theorem ok3:ze Tryz.prog zga Tryz.f3=true:=by kernel_rfl
noncomputable def zgb:Cfg:=zH [] []
theorem mu9 (t:Tmp):zgb.mu t=List.contains (α:=Nat) [] t:=(rfl)
theorem ok9:ze Tryz.prog zgb Tryz.f9=true:=by kernel_rfl
noncomputable def zZB:Cfg:=zH [] [(6,nr 0 25)]
theorem zUm (t:Tmp):zZB.mu t=List.contains (α:=Nat) [] t:=(rfl)
theorem zj9:ze Tryz.prog zZB Tryz.f15=true:=by kernel_rfl
noncomputable def zVH:Cfg:=zH [] []
theorem zkA (t:Tmp):zVH.mu t=List.contains (α:=Nat) [] t:=(rfl)
theorem zi3:ze Tryz.prog zVH Tryz.f27=true:=by kernel_rfl
noncomputable def zcY:Cfg:=zH [17] [(7,nr 0 10)]
theorem zkB:ze Tryz.prog zcY Tryz.f33=true:=by kernel_rfl
noncomputable def zVI:Cfg:=zH [] []
theorem zKO (t:Tmp):zVI.mu t=List.contains (α:=Nat) [] t:=(rfl)
theorem zi4:ze Tryz.prog zVI Tryz.f39=true:=by kernel_rfl
noncomputable def zVJ:Cfg:=zH [] []
theorem zkC (t:Tmp):zVJ.mu t=List.contains (α:=Nat) [] t:=(rfl)
theorem zi5:ze Tryz.prog zVJ Tryz.f45=true:=by kernel_rfl
noncomputable def zVK:Cfg:=zH [] []
theorem zgc (t:Tmp):zVK.mu t=List.contains (α:=Nat) [] t:=(rfl)
theorem zi6:ze Tryz.prog zVK Tryz.f57=true:=by kernel_rfl
noncomputable def zZC:Cfg:=zH [] [(1,nr 0 4++ [(5, .no),(6, .st),(7, .no),(8, .st),(4, .no)]++nr 9 4)]
theorem zi7 (t:Tmp):zZC.mu t=List.contains (α:=Nat) [] t:=(rfl)
theorem zkD:ze Tryz.prog zZC Tryz.f63=true:=by kernel_rfl
noncomputable def zVL:Cfg:=zH [7] []
theorem zkE (t:Tmp):zVL.mu t=List.contains (α:=Nat) [7] t:=(rfl)
theorem zi8:ze Tryz.prog zVL Tryz.f69=true:=by kernel_rfl
noncomputable def zVM:Cfg:=zH [] []
theorem zkF (t:Tmp):zVM.mu t=List.contains (α:=Nat) [] t:=(rfl)
theorem zi9:ze Tryz.prog zVM Tryz.f75=true:=by kernel_rfl
noncomputable def zcZ:Cfg:=zH [] []
theorem zkG:ze Tryz.prog zcZ Tryz.f93=true:=by kernel_rfl
noncomputable def zZD:Cfg:=zH [] [(9,nr 0 25)]
theorem zfX (t:Tmp):zZD.mu t=List.contains (α:=Nat) [] t:=(rfl)
theorem zkH:ze Tryz.prog zZD Tryz.f99=true:=by kernel_rfl
noncomputable def zOv:Cfg:=zH [] []
theorem zSI (t:Tmp):zOv.mu t=List.contains (α:=Nat) [] t:=(rfl)
theorem zca:ze Tryz.prog zOv Tryz.f105=true:=by kernel_rfl
noncomputable def zOw:Cfg:=zH [] [(6,nr 0 10),(11,nr 0 10)]
theorem zEZ (t:Tmp):zOw.mu t=List.contains (α:=Nat) [] t:=(rfl)
theorem zcb:ze Tryz.prog zOw Tryz.f111=true:=by kernel_rfl
noncomputable def zSJ:Cfg:=zH [] []
theorem zcc:ze Tryz.prog zSJ Tryz.f117=true:=by kernel_rfl
noncomputable def zSK:Cfg:=zH [] []
theorem zcd (t:Tmp):zSK.mu t=List.contains (α:=Nat) [] t:=(rfl)
theorem zgd:ze Tryz.prog zSK Tryz.f123=true:=by kernel_rfl
noncomputable def zXf:Cfg:=zH [] []
theorem zge:ze Tryz.prog zXf Tryz.f130=true:=by kernel_rfl
noncomputable def zXg:Cfg:=zH [] []
theorem zgf:ze Tryz.prog zXg Tryz.f137=true:=by kernel_rfl
noncomputable def zSL:Cfg:=zH [] []
theorem zgg (t:Tmp):zSL.mu t=List.contains (α:=Nat) [] t:=(rfl)
theorem zgh:ze Tryz.prog zSL Tryz.f149=true:=by kernel_rfl
noncomputable def zLq:Cfg:=zH [] []
theorem zQc (t:Tmp):zLq.mu t=List.contains (α:=Nat) [] t:=(rfl)
theorem zce:ze Tryz.prog zLq Tryz.f155=true:=by kernel_rfl
noncomputable def zXh:Cfg:=zH [] [(17,nr 0 15)]
theorem zgi:ze Tryz.prog zXh Tryz.f161=true:=by kernel_rfl
noncomputable def zSM:Cfg:=zH [] []
theorem zcf:ze Tryz.prog zSM Tryz.f167=true:=by kernel_rfl
noncomputable def zSN:Cfg:=zH [] []
theorem zgj (t:Tmp):zSN.mu t=List.contains (α:=Nat) [] t:=(rfl)
theorem zgk:ze Tryz.prog zSN Tryz.f179=true:=by kernel_rfl
noncomputable def zXi:Cfg:=zH [] []
theorem zgl:ze Tryz.prog zXi Tryz.f190=true:=by kernel_rfl
noncomputable def zSO:Cfg:=zH [] [(3,[(2, .no),(0, .no),(1, .st)]++nr 3 6)]
theorem zSP (t:Tmp):zSO.mu t=List.contains (α:=Nat) [] t:=(rfl)
theorem zgm:ze Tryz.prog zSO Tryz.f199=true:=by kernel_rfl
noncomputable def zSQ:Cfg:=zH [] [(1,[(2, .no),(0, .no),(1, .no)]++nr 3 10)]
theorem zcg (t:Tmp):zSQ.mu t=List.contains (α:=Nat) [] t:=(rfl)
theorem zgn:ze Tryz.prog zSQ Tryz.f205=true:=by kernel_rfl
noncomputable def zSR:Cfg:=zH [] []
theorem zch:ze Tryz.prog zSR Tryz.f230=true:=by kernel_rfl
noncomputable def zSS:Cfg:=zH [] []
theorem zgo (t:Tmp):zSS.mu t=List.contains (α:=Nat) [] t:=(rfl)
theorem zgp:ze Tryz.prog zSS Tryz.f236=true:=by kernel_rfl
noncomputable def zOx:Cfg:=zH [] []
theorem zgq (t:Tmp):zOx.mu t=List.contains (α:=Nat) [] t:=(rfl)
theorem zci:ze Tryz.prog zOx Tryz.f263=true:=by kernel_rfl
noncomputable def zST:Cfg:=zH [] [(4,nr 0 6)]
theorem zNe (t:Tmp):zST.mu t=List.contains (α:=Nat) [] t:=(rfl)
theorem zgr:ze Tryz.prog zST Tryz.f300=true:=by kernel_rfl
noncomputable def zSU:Cfg:=zH [] []
theorem zSV (t:Tmp):zSU.mu t=List.contains (α:=Nat) [] t:=(rfl)
theorem zgs:ze Tryz.prog zSU Tryz.f336=true:=by kernel_rfl
noncomputable def zZE:Cfg:=zH [] []
theorem zgt (t:Tmp):zZE.mu t=List.contains (α:=Nat) [] t:=(rfl)
theorem zkI:ze Tryz.prog zZE Tryz.f10=true:=by kernel_rfl
noncomputable def zZF:Cfg:=zH [] []
theorem zkJ (t:Tmp):zZF.mu t=List.contains (α:=Nat) [] t:=(rfl)
theorem zkK:ze Tryz.prog zZF Tryz.f16=true:=by kernel_rfl
noncomputable def zcj:Cfg:=zH [7] []
theorem zkL:ze Tryz.prog zcj Tryz.f22=true:=by kernel_rfl
noncomputable def zZG:Cfg:=zH [] [(7,nr 0 14),(14,[(1, .no),(0, .no)]++nr 2 8)]
theorem zK9 (t:Tmp):zZG.mu t=List.contains (α:=Nat) [] t:=(rfl)
theorem zkM:ze Tryz.prog zZG Tryz.f34=true:=by kernel_rfl
noncomputable def zVN:Cfg:=zH [] [(10,nr 0 11),(16,nr 0 8)]
theorem zSW (t:Tmp):zVN.mu t=List.contains (α:=Nat) [] t:=(rfl)
theorem zjA:ze Tryz.prog zVN Tryz.f40=true:=by kernel_rfl
noncomputable def zVO:Cfg:=zH [] []
theorem zck (t:Tmp):zVO.mu t=List.contains (α:=Nat) [] t:=(rfl)
theorem zjB:ze Tryz.prog zVO Tryz.f46=true:=by kernel_rfl
noncomputable def zcl:Cfg:=zH [] []
theorem zkN:ze Tryz.prog zcl Tryz.f58=true:=by kernel_rfl
noncomputable def zVP:Cfg:=zH [] []
theorem zKP (t:Tmp):zVP.mu t=List.contains (α:=Nat) [] t:=(rfl)
theorem zjC:ze Tryz.prog zVP Tryz.f64=true:=by kernel_rfl
noncomputable def zVQ:Cfg:=zH [] []
theorem zkO (t:Tmp):zVQ.mu t=List.contains (α:=Nat) [] t:=(rfl)
theorem zjD:ze Tryz.prog zVQ Tryz.f70=true:=by kernel_rfl
noncomputable def zVR:Cfg:=zH [] [(1,nr 0 4++ [(5, .no),(6, .st),(7, .no),(8, .st),(4, .no)]++nr 9 4)]
theorem zjE (t:Tmp):zVR.mu t=List.contains (α:=Nat) [] t:=(rfl)
theorem zjF:ze Tryz.prog zVR Tryz.f76=true:=by kernel_rfl
noncomputable def zVS:Cfg:=zH [] []
theorem zQd (t:Tmp):zVS.mu t=List.contains (α:=Nat) [] t:=(rfl)
theorem zjG:ze Tryz.prog zVS Tryz.f82=true:=by kernel_rfl
noncomputable def zcm:Cfg:=zH [] [(3,[(0, .no),(1, .no),(2, .st),(4, .no),(5, .no),(6, .st),(9, .no),(10, .no),(11, .st),(14, .no),(15, .no),(16, .st),(3, .st),(7, .st),(8, .st),(12, .st),(13, .st),(17, .st)]++nr 18 3),(6,nr 0 7),(7,[(6, .no)]++nr 0 6++nr 7 6)]
theorem zkP:ze Tryz.prog zcm Tryz.f88=true:=by kernel_rfl
noncomputable def zZH:Cfg:=zH [] []
theorem zjH:ze Tryz.prog zZH Tryz.f94=true:=by kernel_rfl
noncomputable def zOy:Cfg:=zH [] [(16,nr 0 8++ [(13, .no)]++nr 8 5++nr 14 4)]
theorem zLr (t:Tmp):zOy.mu t=List.contains (α:=Nat) [] t:=(rfl)
theorem zcn:ze Tryz.prog zOy Tryz.f100=true:=by kernel_rfl
noncomputable def zOz:Cfg:=zH [] []
theorem zGE (t:Tmp):zOz.mu t=List.contains (α:=Nat) [] t:=(rfl)
theorem zco:ze Tryz.prog zOz Tryz.f106=true:=by kernel_rfl
noncomputable def zO0:Cfg:=zH [] []
theorem zgu (t:Tmp):zO0.mu t=List.contains (α:=Nat) [] t:=(rfl)
theorem zcp:ze Tryz.prog zO0 Tryz.f112=true:=by kernel_rfl
noncomputable def zO1:Cfg:=zH [] []
theorem zVT (t:Tmp):zO1.mu t=List.contains (α:=Nat) [] t:=(rfl)
theorem zcq:ze Tryz.prog zO1 Tryz.f118=true:=by kernel_rfl
noncomputable def zSX:Cfg:=zH [24] []
theorem zGF (t:Tmp):zSX.mu t=List.contains (α:=Nat) [24] t:=(rfl)
theorem zgv:ze Tryz.prog zSX Tryz.f124=true:=by kernel_rfl
noncomputable def zSY:Cfg:=zH [] []
theorem zcr:ze Tryz.prog zSY Tryz.f132=true:=by kernel_rfl
noncomputable def zXj:Cfg:=zH [] [(4,nr 0 17),(6,nr 0 18)]
theorem zgw:ze Tryz.prog zXj Tryz.f138=true:=by kernel_rfl
noncomputable def zSZ:Cfg:=zH [] []
theorem zcs:ze Tryz.prog zSZ Tryz.f144=true:=by kernel_rfl
noncomputable def zSa:Cfg:=zH [] []
theorem zgx (t:Tmp):zSa.mu t=List.contains (α:=Nat) [] t:=(rfl)
theorem zgy:ze Tryz.prog zSa Tryz.f150=true:=by kernel_rfl
noncomputable def zLs:Cfg:=zH [] [(3,[(0, .st),(4, .st),(1, .no),(2, .no),(3, .st),(5, .no),(6, .no),(7, .st),(8, .no),(9, .st),(10, .no),(11, .no),(12, .st),(13, .st)]++nr 14 6)]
theorem zKQ (t:Tmp):zLs.mu t=List.contains (α:=Nat) [] t:=(rfl)
theorem zct:ze Tryz.prog zLs Tryz.f156=true:=by kernel_rfl
noncomputable def zXk:Cfg:=zH [] []
theorem zgz:ze Tryz.prog zXk Tryz.f162=true:=by kernel_rfl
noncomputable def zLt:Cfg:=zH [] []
theorem zSb (t:Tmp):zLt.mu t=List.contains (α:=Nat) [] t:=(rfl)
theorem zcu:ze Tryz.prog zLt Tryz.f168=true:=by kernel_rfl
noncomputable def zSc:Cfg:=zH [] []
theorem zg0 (t:Tmp):zSc.mu t=List.contains (α:=Nat) [] t:=(rfl)
theorem zg1:ze Tryz.prog zSc Tryz.f174=true:=by kernel_rfl
noncomputable def zSd:Cfg:=zH [] []
theorem zg2 (t:Tmp):zSd.mu t=List.contains (α:=Nat) [] t:=(rfl)
theorem zg3:ze Tryz.prog zSd Tryz.f180=true:=by kernel_rfl
noncomputable def zO2:Cfg:=zH [] []
theorem zg4 (t:Tmp):zO2.mu t=List.contains (α:=Nat) [] t:=(rfl)
theorem zcv:ze Tryz.prog zO2 Tryz.f200=true:=by kernel_rfl
noncomputable def zO3:Cfg:=zH [] [(7,nr 0 9)]
theorem zIV (t:Tmp):zO3.mu t=List.contains (α:=Nat) [] t:=(rfl)
theorem zcw:ze Tryz.prog zO3 Tryz.f206=true:=by kernel_rfl
noncomputable def zO4:Cfg:=zH [] []
theorem zcx (t:Tmp):zO4.mu t=List.contains (α:=Nat) [] t:=(rfl)
theorem zcy:ze Tryz.prog zO4 Tryz.f231=true:=by kernel_rfl
noncomputable def zSe:Cfg:=zH [] []
theorem zg5 (t:Tmp):zSe.mu t=List.contains (α:=Nat) [] t:=(rfl)
theorem zg6:ze Tryz.prog zSe Tryz.f237=true:=by kernel_rfl
noncomputable def zO5:Cfg:=zH [] [(1,[(2, .no),(6, .no),(0, .no),(1, .no)]++nr 3 3++nr 7 5)]
theorem zcz (t:Tmp):zO5.mu t=List.contains (α:=Nat) [] t:=(rfl)
theorem zc0:ze Tryz.prog zO5 Tryz.f264=true:=by kernel_rfl
noncomputable def zSf:Cfg:=zH [] [(10,nr 0 14),(15,nr 0 20)]
theorem zHN (t:Tmp):zSf.mu t=List.contains (α:=Nat) [] t:=(rfl)
theorem zg7:ze Tryz.prog zSf Tryz.f313=true:=by kernel_rfl
noncomputable def zSg:Cfg:=zH [] []
theorem zNf (t:Tmp):zSg.mu t=List.contains (α:=Nat) [] t:=(rfl)
theorem zg8:ze Tryz.prog zSg Tryz.f337=true:=by kernel_rfl
noncomputable def zVU:Cfg:=zH [] []
theorem zbJ (t:Tmp):zVU.mu t=List.contains (α:=Nat) [] t:=(rfl)
theorem zjI:ze Tryz.prog zVU Tryz.f11=true:=by kernel_rfl
noncomputable def zVV:Cfg:=zH [] []
theorem zc1 (t:Tmp):zVV.mu t=List.contains (α:=Nat) [] t:=(rfl)
theorem zjJ:ze Tryz.prog zVV Tryz.f17=true:=by kernel_rfl
noncomputable def zZI:Cfg:=zH [] []
theorem zjK:ze Tryz.prog zZI Tryz.f29=true:=by kernel_rfl
noncomputable def zZJ:Cfg:=zH [] []
theorem zfY (t:Tmp):zZJ.mu t=List.contains (α:=Nat) [] t:=(rfl)
theorem zkQ:ze Tryz.prog zZJ Tryz.f35=true:=by kernel_rfl
noncomputable def zSh:Cfg:=zH [] []
theorem zfZ (t:Tmp):zSh.mu t=List.contains (α:=Nat) [] t:=(rfl)
theorem zjL:ze Tryz.prog zSh Tryz.f41=true:=by kernel_rfl
noncomputable def zVW:Cfg:=zH [] []
theorem zZK (t:Tmp):zVW.mu t=List.contains (α:=Nat) [] t:=(rfl)
theorem zjM:ze Tryz.prog zVW Tryz.f47=true:=by kernel_rfl
noncomputable def zZL:Cfg:=zH [] []
theorem zjN:ze Tryz.prog zZL Tryz.f53=true:=by kernel_rfl
noncomputable def zZM:Cfg:=zH [] [(7,nr 0 26),(11,nr 0 26),(15,nr 0 18),(23,nr 0 18)]
theorem zHO (t:Tmp):zZM.mu t=List.contains (α:=Nat) [] t:=(rfl)
theorem zkR:ze Tryz.prog zZM Tryz.f65=true:=by kernel_rfl
noncomputable def zVX:Cfg:=zH [] []
theorem zkS (t:Tmp):zVX.mu t=List.contains (α:=Nat) [] t:=(rfl)
theorem zjO:ze Tryz.prog zVX Tryz.f71=true:=by kernel_rfl
noncomputable def zVY:Cfg:=zH [] [(20,nr 0 12)]
theorem zQe (t:Tmp):zVY.mu t=List.contains (α:=Nat) [] t:=(rfl)
theorem zjP:ze Tryz.prog zVY Tryz.f77=true:=by kernel_rfl
noncomputable def zVZ:Cfg:=zH [31] []
theorem zkT (t:Tmp):zVZ.mu t=List.contains (α:=Nat) [31] t:=(rfl)
theorem zjQ:ze Tryz.prog zVZ Tryz.f83=true:=by kernel_rfl
noncomputable def zZN:Cfg:=zH [] []
theorem zjR:ze Tryz.prog zZN Tryz.f95=true:=by kernel_rfl
noncomputable def zSi:Cfg:=zH [] [(9,nr 0 9++ [(14, .no)]++nr 9 5++nr 15 4)]
theorem zLu (t:Tmp):zSi.mu t=List.contains (α:=Nat) [] t:=(rfl)
theorem zg9:ze Tryz.prog zSi Tryz.f101=true:=by kernel_rfl
noncomputable def zO6:Cfg:=zH [] []
theorem zc2 (t:Tmp):zO6.mu t=List.contains (α:=Nat) [] t:=(rfl)
theorem zc3:ze Tryz.prog zO6 Tryz.f107=true:=by kernel_rfl
noncomputable def zLv:Cfg:=zH [] [(6,nr 0 11),(11,nr 0 12)]
theorem zDv (t:Tmp):zLv.mu t=List.contains (α:=Nat) [] t:=(rfl)
theorem zZO:ze Tryz.prog zLv Tryz.f113=true:=by kernel_rfl
noncomputable def zLw:Cfg:=zH [] []
theorem zKR (t:Tmp):zLw.mu t=List.contains (α:=Nat) [] t:=(rfl)
theorem zc4:ze Tryz.prog zLw Tryz.f119=true:=by kernel_rfl
noncomputable def zSj:Cfg:=zH [] []
theorem zc5 (t:Tmp):zSj.mu t=List.contains (α:=Nat) [] t:=(rfl)
theorem zhA:ze Tryz.prog zSj Tryz.f125=true:=by kernel_rfl
noncomputable def zXl:Cfg:=zH [] [(4,nr 0 5)]
theorem zhB:ze Tryz.prog zXl Tryz.f133=true:=by kernel_rfl
noncomputable def zXm:Cfg:=zH [] [(4,nr 0 17),(6,nr 0 18)]
theorem zhC:ze Tryz.prog zXm Tryz.f145=true:=by kernel_rfl
noncomputable def zO7:Cfg:=zH [] []
theorem zhD (t:Tmp):zO7.mu t=List.contains (α:=Nat) [] t:=(rfl)
theorem zc6:ze Tryz.prog zO7 Tryz.f151=true:=by kernel_rfl
noncomputable def zJD:Cfg:=zH [] [(6,nr 0 19)]
theorem zHP (t:Tmp):zJD.mu t=List.contains (α:=Nat) [] t:=(rfl)
theorem zc7:ze Tryz.prog zJD Tryz.f157=true:=by kernel_rfl
noncomputable def zO8:Cfg:=zH [] [(17,nr 0 17)]
theorem zZP (t:Tmp):zO8.mu t=List.contains (α:=Nat) [] t:=(rfl)
theorem zc8:ze Tryz.prog zO8 Tryz.f163=true:=by kernel_rfl
noncomputable def zO9:Cfg:=zH [] []
theorem zVa (t:Tmp):zO9.mu t=List.contains (α:=Nat) [] t:=(rfl)
theorem zc9:ze Tryz.prog zO9 Tryz.f169=true:=by kernel_rfl
noncomputable def zSk:Cfg:=zH [] []
theorem zhE (t:Tmp):zSk.mu t=List.contains (α:=Nat) [] t:=(rfl)
theorem zhF:ze Tryz.prog zSk Tryz.f175=true:=by kernel_rfl
noncomputable def zSl:Cfg:=zH [] []
theorem zdA (t:Tmp):zSl.mu t=List.contains (α:=Nat) [] t:=(rfl)
theorem zhG:ze Tryz.prog zSl Tryz.f181=true:=by kernel_rfl
noncomputable def zPA:Cfg:=zH [] [(1,nr 0 9),(4,[(4, .no)]++nr 0 4++nr 5 18++ [(25, .no),(23, .no),(24, .no)])]
theorem zGG (t:Tmp):zPA.mu t=List.contains (α:=Nat) [] t:=(rfl)
theorem zdB:ze Tryz.prog zPA Tryz.f201=true:=by kernel_rfl
noncomputable def zPB:Cfg:=zH [] []
theorem zhH (t:Tmp):zPB.mu t=List.contains (α:=Nat) [] t:=(rfl)
theorem zdC:ze Tryz.prog zPB Tryz.f207=true:=by kernel_rfl
noncomputable def zXn:Cfg:=zH [] []
theorem zhI:ze Tryz.prog zXn Tryz.f220=true:=by kernel_rfl
noncomputable def zSm:Cfg:=zH [] []
theorem zhJ (t:Tmp):zSm.mu t=List.contains (α:=Nat) [] t:=(rfl)
theorem zhK:ze Tryz.prog zSm Tryz.f238=true:=by kernel_rfl
noncomputable def zPC:Cfg:=zH [] []
theorem zKS (t:Tmp):zPC.mu t=List.contains (α:=Nat) [] t:=(rfl)
theorem zdD:ze Tryz.prog zPC Tryz.f265=true:=by kernel_rfl
noncomputable def zSn:Cfg:=zH [] [(11,nr 0 20),(16,nr 0 12)]
theorem zHQ (t:Tmp):zSn.mu t=List.contains (α:=Nat) [] t:=(rfl)
theorem zhL:ze Tryz.prog zSn Tryz.f314=true:=by kernel_rfl
noncomputable def zSo:Cfg:=zH [] []
theorem zdE:ze Tryz.prog zSo Tryz.f320=true:=by kernel_rfl
noncomputable def zSp:Cfg:=zH [] []
theorem zVb (t:Tmp):zSp.mu t=List.contains (α:=Nat) [] t:=(rfl)
theorem zhM:ze Tryz.prog zSp Tryz.f338=true:=by kernel_rfl
noncomputable def zVc:Cfg:=zH [] []
theorem zdF (t:Tmp):zVc.mu t=List.contains (α:=Nat) [] t:=(rfl)
theorem zjS:ze Tryz.prog zVc Tryz.f12=true:=by kernel_rfl
noncomputable def zVd:Cfg:=zH [] []
theorem zkU (t:Tmp):zVd.mu t=List.contains (α:=Nat) [] t:=(rfl)
theorem zjT:ze Tryz.prog zVd Tryz.f18=true:=by kernel_rfl
noncomputable def zVe:Cfg:=zH [] []
theorem zSq (t:Tmp):zVe.mu t=List.contains (α:=Nat) [] t:=(rfl)
theorem zjU:ze Tryz.prog zVe Tryz.f24=true:=by kernel_rfl
noncomputable def zVf:Cfg:=zH [] []
theorem zfa (t:Tmp):zVf.mu t=List.contains (α:=Nat) [] t:=(rfl)
theorem zjV:ze Tryz.prog zVf Tryz.f36=true:=by kernel_rfl
noncomputable def zSr:Cfg:=zH [] []
theorem zbK (t:Tmp):zSr.mu t=List.contains (α:=Nat) [] t:=(rfl)
theorem zjW:ze Tryz.prog zSr Tryz.f42=true:=by kernel_rfl
noncomputable def zVg:Cfg:=zH [] []
theorem zhN (t:Tmp):zVg.mu t=List.contains (α:=Nat) [] t:=(rfl)
theorem zjX:ze Tryz.prog zVg Tryz.f48=true:=by kernel_rfl
noncomputable def zdG:Cfg:=zH [] []
theorem zkV:ze Tryz.prog zdG Tryz.f54=true:=by kernel_rfl
noncomputable def zdH:Cfg:=zH [] []
theorem zkW:ze Tryz.prog zdH Tryz.f60=true:=by kernel_rfl
noncomputable def zZQ:Cfg:=zH [] []
theorem zjY (t:Tmp):zZQ.mu t=List.contains (α:=Nat) [] t:=(rfl)
theorem zkX:ze Tryz.prog zZQ Tryz.f66=true:=by kernel_rfl
noncomputable def zVh:Cfg:=zH [] [(6,nr 0 9)]
theorem zXo (t:Tmp):zVh.mu t=List.contains (α:=Nat) [] t:=(rfl)
theorem zjZ:ze Tryz.prog zVh Tryz.f72=true:=by kernel_rfl
noncomputable def zSs:Cfg:=zH [] []
theorem zUn (t:Tmp):zSs.mu t=List.contains (α:=Nat) [] t:=(rfl)
theorem zja:ze Tryz.prog zSs Tryz.f78=true:=by kernel_rfl
noncomputable def zdI:Cfg:=zH [] []
theorem zkY:ze Tryz.prog zdI Tryz.f84=true:=by kernel_rfl
noncomputable def zdJ:Cfg:=zH [] []
theorem zkZ:ze Tryz.prog zdJ Tryz.f90=true:=by kernel_rfl
noncomputable def zdK:Cfg:=zH [] []
theorem zka:ze Tryz.prog zdK Tryz.f96=true:=by kernel_rfl
noncomputable def zPD:Cfg:=zH [] []
theorem zNg (t:Tmp):zPD.mu t=List.contains (α:=Nat) [] t:=(rfl)
theorem zdL:ze Tryz.prog zPD Tryz.f102=true:=by kernel_rfl
noncomputable def zPE:Cfg:=zH [16] [(2,[(0, .st),(1, .no),(2, .st)]++nr 3 6)]
theorem zVi (t:Tmp):zPE.mu t=List.contains (α:=Nat) [16] t:=(rfl)
theorem zdM:ze Tryz.prog zPE Tryz.f108=true:=by kernel_rfl
noncomputable def zPF:Cfg:=zH [] []
theorem zNh (t:Tmp):zPF.mu t=List.contains (α:=Nat) [] t:=(rfl)
theorem zdN:ze Tryz.prog zPF Tryz.f114=true:=by kernel_rfl
noncomputable def zPG:Cfg:=zH [] []
theorem zhO (t:Tmp):zPG.mu t=List.contains (α:=Nat) [] t:=(rfl)
theorem zdO:ze Tryz.prog zPG Tryz.f120=true:=by kernel_rfl
noncomputable def zSt:Cfg:=zH [] []
theorem zVj (t:Tmp):zSt.mu t=List.contains (α:=Nat) [] t:=(rfl)
theorem zhP:ze Tryz.prog zSt Tryz.f126=true:=by kernel_rfl
noncomputable def zXp:Cfg:=zH [] []
theorem zhQ:ze Tryz.prog zXp Tryz.f134=true:=by kernel_rfl
noncomputable def zXq:Cfg:=zH [] [(4,nr 0 17),(6,nr 0 18)]
theorem zhR:ze Tryz.prog zXq Tryz.f140=true:=by kernel_rfl
noncomputable def zSu:Cfg:=zH [] [(4,nr 0 10)]
theorem zNi (t:Tmp):zSu.mu t=List.contains (α:=Nat) [] t:=(rfl)
theorem zhS:ze Tryz.prog zSu Tryz.f152=true:=by kernel_rfl
noncomputable def zJE:Cfg:=zH [] [(3,nr 0 10),(6,[(0, .no),(9, .no)]++nr 1 8++nr 10 10),(7,nr 0 34),(8,[(0, .no),(1, .no),(8, .no)]++nr 2 6++nr 9 7)]
theorem zEa (t:Tmp):zJE.mu t=List.contains (α:=Nat) [] t:=(rfl)
theorem zdP:ze Tryz.prog zJE Tryz.f158=true:=by kernel_rfl
noncomputable def zPH:Cfg:=zH [] []
theorem zhT (t:Tmp):zPH.mu t=List.contains (α:=Nat) [] t:=(rfl)
theorem zdQ:ze Tryz.prog zPH Tryz.f164=true:=by kernel_rfl
noncomputable def zPI:Cfg:=zH [] []
theorem zhU (t:Tmp):zPI.mu t=List.contains (α:=Nat) [] t:=(rfl)
theorem zdR:ze Tryz.prog zPI Tryz.f170=true:=by kernel_rfl
noncomputable def zSv:Cfg:=zH [] [(1,nr 0 4++ [(5, .no),(6, .st),(7, .no),(8, .st),(4, .no)]++nr 9 4)]
theorem zdS (t:Tmp):zSv.mu t=List.contains (α:=Nat) [] t:=(rfl)
theorem zhV:ze Tryz.prog zSv Tryz.f176=true:=by kernel_rfl
noncomputable def zPJ:Cfg:=zH [2] []
theorem zSw (t:Tmp):zPJ.mu t=List.contains (α:=Nat) [2] t:=(rfl)
theorem zhW:ze Tryz.prog zPJ Tryz.f182=true:=by kernel_rfl
noncomputable def zSx:Cfg:=zH [] []
theorem zhX (t:Tmp):zSx.mu t=List.contains (α:=Nat) [] t:=(rfl)
theorem zhY:ze Tryz.prog zSx Tryz.f202=true:=by kernel_rfl
noncomputable def zPK:Cfg:=zH [] [(1,[(2, .no),(6, .no),(0, .no),(1, .no)]++nr 3 3++nr 7 5)]
theorem zdT (t:Tmp):zPK.mu t=List.contains (α:=Nat) [] t:=(rfl)
theorem zdU:ze Tryz.prog zPK Tryz.f208=true:=by kernel_rfl
noncomputable def zPL:Cfg:=zH [] [(4,nr 0 17),(6,nr 0 18)]
theorem zZR (t:Tmp):zPL.mu t=List.contains (α:=Nat) [] t:=(rfl)
theorem zdV:ze Tryz.prog zPL Tryz.f221=true:=by kernel_rfl
noncomputable def zSy:Cfg:=zH [] []
theorem zBb (t:Tmp):zSy.mu t=List.contains (α:=Nat) [] t:=(rfl)
theorem zhZ:ze Tryz.prog zSy Tryz.f260=true:=by kernel_rfl
noncomputable def zPM:Cfg:=zH [] []
theorem zdW (t:Tmp):zPM.mu t=List.contains (α:=Nat) [] t:=(rfl)
theorem zdX:ze Tryz.prog zPM Tryz.f266=true:=by kernel_rfl
noncomputable def zSz:Cfg:=zH [] [(11,nr 0 8),(16,nr 0 12),(18,nr 0 3++ [(9, .no)]++nr 3 6++nr 10 3)]
theorem zGH (t:Tmp):zSz.mu t=List.contains (α:=Nat) [] t:=(rfl)
theorem zha:ze Tryz.prog zSz Tryz.f315=true:=by kernel_rfl
noncomputable def zS0:Cfg:=zH [] []
theorem zhb (t:Tmp):zS0.mu t=List.contains (α:=Nat) [] t:=(rfl)
theorem zhc:ze Tryz.prog zS0 Tryz.f339=true:=by kernel_rfl
noncomputable def zVk:Cfg:=zH [] []
theorem zfb (t:Tmp):zVk.mu t=List.contains (α:=Nat) [] t:=(rfl)
theorem zjb:ze Tryz.prog zVk Tryz.f13=true:=by kernel_rfl
noncomputable def zZS:Cfg:=zH [] []
theorem zkb (t:Tmp):zZS.mu t=List.contains (α:=Nat) [] t:=(rfl)
theorem zkc:ze Tryz.prog zZS Tryz.f19=true:=by kernel_rfl
noncomputable def zVl:Cfg:=zH [] []
theorem zZT (t:Tmp):zVl.mu t=List.contains (α:=Nat) [] t:=(rfl)
theorem zjc:ze Tryz.prog zVl Tryz.f37=true:=by kernel_rfl
noncomputable def zZU:Cfg:=zH [] [(4,nr 0 9),(6,nr 0 9)]
theorem zQf (t:Tmp):zZU.mu t=List.contains (α:=Nat) [] t:=(rfl)
theorem zkd:ze Tryz.prog zZU Tryz.f43=true:=by kernel_rfl
noncomputable def zZV:Cfg:=zH [] []
theorem zjd:ze Tryz.prog zZV Tryz.f49=true:=by kernel_rfl
noncomputable def zdY:Cfg:=zH [] []
theorem zke:ze Tryz.prog zdY Tryz.f55=true:=by kernel_rfl
noncomputable def zZW:Cfg:=zH [] [(1,nr 0 4++ [(5, .no),(6, .st),(7, .no),(8, .st),(10, .no),(11, .st),(12, .no),(13, .st),(15, .no),(16, .st),(17, .no),(18, .st),(4, .no),(9, .no),(14, .no)]++nr 19 4)]
theorem zje (t:Tmp):zZW.mu t=List.contains (α:=Nat) [] t:=(rfl)
theorem zkf:ze Tryz.prog zZW Tryz.f61=true:=by kernel_rfl
noncomputable def zZX:Cfg:=zH [] []
theorem zkg (t:Tmp):zZX.mu t=List.contains (α:=Nat) [] t:=(rfl)
theorem zkh:ze Tryz.prog zZX Tryz.f67=true:=by kernel_rfl
noncomputable def zVm:Cfg:=zH [] []
theorem zki (t:Tmp):zVm.mu t=List.contains (α:=Nat) [] t:=(rfl)
theorem zjf:ze Tryz.prog zVm Tryz.f73=true:=by kernel_rfl
noncomputable def zQg:Cfg:=zH [] []
theorem zHR (t:Tmp):zQg.mu t=List.contains (α:=Nat) [] t:=(rfl)
theorem zfc:ze Tryz.prog zQg Tryz.f79=true:=by kernel_rfl
noncomputable def zdZ:Cfg:=zH [] []
theorem zkj:ze Tryz.prog zdZ Tryz.f85=true:=by kernel_rfl
noncomputable def zVn:Cfg:=zH [] []
theorem zkk (t:Tmp):zVn.mu t=List.contains (α:=Nat) [] t:=(rfl)
theorem zjg:ze Tryz.prog zVn Tryz.f91=true:=by kernel_rfl
noncomputable def zVo:Cfg:=zH [] [(14,nr 0 13)]
theorem zEA (t:Tmp):zVo.mu t=List.contains (α:=Nat) [] t:=(rfl)
theorem zjh:ze Tryz.prog zVo Tryz.f97=true:=by kernel_rfl
noncomputable def zS1:Cfg:=zH [] [(10,nr 0 12)]
theorem zLx (t:Tmp):zS1.mu t=List.contains (α:=Nat) [] t:=(rfl)
theorem zhd:ze Tryz.prog zS1 Tryz.f103=true:=by kernel_rfl
noncomputable def zPN:Cfg:=zH [7] []
theorem zhe (t:Tmp):zPN.mu t=List.contains (α:=Nat) [7] t:=(rfl)
theorem zda:ze Tryz.prog zPN Tryz.f109=true:=by kernel_rfl
noncomputable def zPO:Cfg:=zH [] []
theorem zhf (t:Tmp):zPO.mu t=List.contains (α:=Nat) [] t:=(rfl)
theorem zdb:ze Tryz.prog zPO Tryz.f115=true:=by kernel_rfl
noncomputable def zPP:Cfg:=zH [] []
theorem zdc (t:Tmp):zPP.mu t=List.contains (α:=Nat) [] t:=(rfl)
theorem zdd:ze Tryz.prog zPP Tryz.f121=true:=by kernel_rfl
noncomputable def zXr:Cfg:=zH [] []
theorem zhg:ze Tryz.prog zXr Tryz.f135=true:=by kernel_rfl
noncomputable def zPQ:Cfg:=zH [] []
theorem zde (t:Tmp):zPQ.mu t=List.contains (α:=Nat) [] t:=(rfl)
theorem zdf:ze Tryz.prog zPQ Tryz.f147=true:=by kernel_rfl
noncomputable def zPR:Cfg:=zH [] [(4,nr 0 10)]
theorem zNj (t:Tmp):zPR.mu t=List.contains (α:=Nat) [] t:=(rfl)
theorem zdg:ze Tryz.prog zPR Tryz.f153=true:=by kernel_rfl
noncomputable def zJF:Cfg:=zH [] [(3,[(0, .no),(4, .no),(8, .no)]++nr 1 3++nr 5 3++nr 9 9),(4,nr 0 4++ [(7, .no)]++nr 4 3++nr 8 6)]
theorem zFK (t:Tmp):zJF.mu t=List.contains (α:=Nat) [] t:=(rfl)
theorem zdh:ze Tryz.prog zJF Tryz.f159=true:=by kernel_rfl
noncomputable def zS2:Cfg:=zH [] []
theorem zdi:ze Tryz.prog zS2 Tryz.f165=true:=by kernel_rfl
noncomputable def zPS:Cfg:=zH [] []
theorem zLy (t:Tmp):zPS.mu t=List.contains (α:=Nat) [] t:=(rfl)
theorem zdj:ze Tryz.prog zPS Tryz.f171=true:=by kernel_rfl
noncomputable def zS3:Cfg:=zH [] [(6,nr 0 10),(11,nr 0 10)]
theorem zEb (t:Tmp):zS3.mu t=List.contains (α:=Nat) [] t:=(rfl)
theorem zhh:ze Tryz.prog zS3 Tryz.f177=true:=by kernel_rfl
noncomputable def zS4:Cfg:=zH [] []
theorem zLz (t:Tmp):zS4.mu t=List.contains (α:=Nat) [] t:=(rfl)
theorem zhi:ze Tryz.prog zS4 Tryz.f183=true:=by kernel_rfl
noncomputable def zPT:Cfg:=zH [] []
theorem zhj (t:Tmp):zPT.mu t=List.contains (α:=Nat) [] t:=(rfl)
theorem zdk:ze Tryz.prog zPT Tryz.f203=true:=by kernel_rfl
noncomputable def zS5:Cfg:=zH [] []
theorem zhk (t:Tmp):zS5.mu t=List.contains (α:=Nat) [] t:=(rfl)
theorem zhl:ze Tryz.prog zS5 Tryz.f209=true:=by kernel_rfl
noncomputable def zXs:Cfg:=zH [] []
theorem zhm:ze Tryz.prog zXs Tryz.f252=true:=by kernel_rfl
noncomputable def zS6:Cfg:=zH [] []
theorem zS7 (t:Tmp):zS6.mu t=List.contains (α:=Nat) [] t:=(rfl)
theorem zhn:ze Tryz.prog zS6 Tryz.f261=true:=by kernel_rfl
noncomputable def zS8:Cfg:=zH [] [(4,nr 0 9++ [(15, .no)]++nr 9 6++nr 16 4)]
theorem zVp (t:Tmp):zS8.mu t=List.contains (α:=Nat) [] t:=(rfl)
theorem zho:ze Tryz.prog zS8 Tryz.f316=true:=by kernel_rfl
noncomputable def zS9:Cfg:=zH [] []
theorem zhp (t:Tmp):zS9.mu t=List.contains (α:=Nat) [] t:=(rfl)
theorem zhq:ze Tryz.prog zS9 Tryz.f340=true:=by kernel_rfl
noncomputable def zji:Cfg:=zH [] [(9,nr 0 51++ [(52, .no),(53, .no),(51, .no)]++nr 54 5++ [(60, .no),(59, .no)]++nr 61 7)]
theorem ok8:ze Tryz.prog zji Tryz.f8=true:=by kernel_rfl
noncomputable def zVq:Cfg:=zH [] []
theorem zfd (t:Tmp):zVq.mu t=List.contains (α:=Nat) [] t:=(rfl)
theorem zjj:ze Tryz.prog zVq Tryz.f14=true:=by kernel_rfl
noncomputable def zVr:Cfg:=zH [] [(6,nr 0 9)]
theorem zXt (t:Tmp):zVr.mu t=List.contains (α:=Nat) [] t:=(rfl)
theorem zjk:ze Tryz.prog zVr Tryz.f20=true:=by kernel_rfl
noncomputable def zVs:Cfg:=zH [16] [(6,nr 0 17),(11,[(0, .no),(1, .st)]++nr 2 12),(16,nr 0 20)]
theorem zM5 (t:Tmp):zVs.mu t=List.contains (α:=Nat) [16] t:=(rfl)
theorem zjl:ze Tryz.prog zVs Tryz.f38=true:=by kernel_rfl
noncomputable def zVt:Cfg:=zH [] []
theorem zkl (t:Tmp):zVt.mu t=List.contains (α:=Nat) [] t:=(rfl)
theorem zjm:ze Tryz.prog zVt Tryz.f44=true:=by kernel_rfl
noncomputable def zVu:Cfg:=zH [] []
theorem zdl (t:Tmp):zVu.mu t=List.contains (α:=Nat) [] t:=(rfl)
theorem zjn:ze Tryz.prog zVu Tryz.f50=true:=by kernel_rfl
noncomputable def zdm:Cfg:=zH [] []
theorem zkm:ze Tryz.prog zdm Tryz.f56=true:=by kernel_rfl
noncomputable def zdn:Cfg:=zH [] []
theorem zkn:ze Tryz.prog zdn Tryz.f62=true:=by kernel_rfl
noncomputable def zVv:Cfg:=zH [] []
theorem zVw (t:Tmp):zVv.mu t=List.contains (α:=Nat) [] t:=(rfl)
theorem zjo:ze Tryz.prog zVv Tryz.f68=true:=by kernel_rfl
noncomputable def zVx:Cfg:=zH [] []
theorem zko (t:Tmp):zVx.mu t=List.contains (α:=Nat) [] t:=(rfl)
theorem zjp:ze Tryz.prog zVx Tryz.f74=true:=by kernel_rfl
noncomputable def zdo:Cfg:=zH [] [(7,nr 0 12),(9,nr 0 17),(11,nr 0 21)]
theorem zkp:ze Tryz.prog zdo Tryz.f86=true:=by kernel_rfl
noncomputable def zdp:Cfg:=zH [] []
theorem zkq:ze Tryz.prog zdp Tryz.f92=true:=by kernel_rfl
noncomputable def zVy:Cfg:=zH [] []
theorem zfe (t:Tmp):zVy.mu t=List.contains (α:=Nat) [] t:=(rfl)
theorem zjq:ze Tryz.prog zVy Tryz.f98=true:=by kernel_rfl
noncomputable def zPU:Cfg:=zH [] []
theorem zTA (t:Tmp):zPU.mu t=List.contains (α:=Nat) [] t:=(rfl)
theorem zdq:ze Tryz.prog zPU Tryz.f104=true:=by kernel_rfl
noncomputable def zXu:Cfg:=zH [] []
theorem zhr:ze Tryz.prog zXu Tryz.f110=true:=by kernel_rfl
noncomputable def zPV:Cfg:=zH [] []
theorem zTB (t:Tmp):zPV.mu t=List.contains (α:=Nat) [] t:=(rfl)
theorem zdr:ze Tryz.prog zPV Tryz.f116=true:=by kernel_rfl
noncomputable def zTC:Cfg:=zH [44] []
theorem zHS (t:Tmp):zTC.mu t=List.contains (α:=Nat) [44] t:=(rfl)
theorem zhs:ze Tryz.prog zTC Tryz.f122=true:=by kernel_rfl
noncomputable def zPW:Cfg:=zH [] []
theorem zL0 (t:Tmp):zPW.mu t=List.contains (α:=Nat) [] t:=(rfl)
theorem zds:ze Tryz.prog zPW Tryz.f128=true:=by kernel_rfl
noncomputable def zXv:Cfg:=zH [] []
theorem zht:ze Tryz.prog zXv Tryz.f136=true:=by kernel_rfl
noncomputable def zXw:Cfg:=zH [] [(4,nr 0 17),(6,nr 0 18)]
theorem zhu:ze Tryz.prog zXw Tryz.f142=true:=by kernel_rfl
noncomputable def zPX:Cfg:=zH [] []
theorem zdt (t:Tmp):zPX.mu t=List.contains (α:=Nat) [] t:=(rfl)
theorem zdu:ze Tryz.prog zPX Tryz.f148=true:=by kernel_rfl
noncomputable def zTD:Cfg:=zH [] [(11,nr 0 19)]
theorem zFL (t:Tmp):zTD.mu t=List.contains (α:=Nat) [] t:=(rfl)
theorem zhv:ze Tryz.prog zTD Tryz.f154=true:=by kernel_rfl
noncomputable def zL1:Cfg:=zH [] []
theorem zTE (t:Tmp):zL1.mu t=List.contains (α:=Nat) [] t:=(rfl)
theorem zdv:ze Tryz.prog zL1 Tryz.f160=true:=by kernel_rfl
noncomputable def zTF:Cfg:=zH [] []
theorem zdw:ze Tryz.prog zTF Tryz.f166=true:=by kernel_rfl
noncomputable def zPY:Cfg:=zH [] []
theorem zdx (t:Tmp):zPY.mu t=List.contains (α:=Nat) [] t:=(rfl)
theorem zdy:ze Tryz.prog zPY Tryz.f172=true:=by kernel_rfl
noncomputable def zTG:Cfg:=zH [] []
theorem zTH (t:Tmp):zTG.mu t=List.contains (α:=Nat) [] t:=(rfl)
theorem zhw:ze Tryz.prog zTG Tryz.f198=true:=by kernel_rfl
noncomputable def zPZ:Cfg:=zH [] []
theorem zhx (t:Tmp):zPZ.mu t=List.contains (α:=Nat) [] t:=(rfl)
theorem zdz:ze Tryz.prog zPZ Tryz.f204=true:=by kernel_rfl
noncomputable def zXx:Cfg:=zH [] [(4,nr 0 15),(6,nr 0 18)]
theorem zhy:ze Tryz.prog zXx Tryz.f210=true:=by kernel_rfl
noncomputable def zXy:Cfg:=zH [] []
theorem zhz:ze Tryz.prog zXy Tryz.f216=true:=by kernel_rfl
noncomputable def zTI:Cfg:=zH [] []
theorem zd0:ze Tryz.prog zTI Tryz.f229=true:=by kernel_rfl
noncomputable def zTJ:Cfg:=zH [] []
theorem zNk (t:Tmp):zTJ.mu t=List.contains (α:=Nat) [] t:=(rfl)
theorem zh0:ze Tryz.prog zTJ Tryz.f235=true:=by kernel_rfl
noncomputable def zJG:Cfg:=zH [] [(4,[(0, .no),(4, .no)]++nr 1 3++nr 5 6)]
theorem zFM (t:Tmp):zJG.mu t=List.contains (α:=Nat) [] t:=(rfl)
theorem zd1:ze Tryz.prog zJG Tryz.f262=true:=by kernel_rfl
noncomputable def zTK:Cfg:=zH [] []
theorem zd2:ze Tryz.prog zTK Tryz.f275=true:=by kernel_rfl
noncomputable def zTL:Cfg:=zH [] []
theorem zTM (t:Tmp):zTL.mu t=List.contains (α:=Nat) [] t:=(rfl)
theorem zh1:ze Tryz.prog zTL Tryz.f299=true:=by kernel_rfl
noncomputable def zPa:Cfg:=zH [] []
theorem zh2 (t:Tmp):zPa.mu t=List.contains (α:=Nat) [] t:=(rfl)
theorem zd3:ze Tryz.prog zPa Tryz.f317=true:=by kernel_rfl
noncomputable def zPb:Cfg:=zH [] [(4,nr 0 6)]
theorem zNl (t:Tmp):zPb.mu t=List.contains (α:=Nat) [] t:=(rfl)
theorem zd4:ze Tryz.prog zPb Tryz.f341=true:=by kernel_rfl
set_option maxRecDepth 100000
noncomputable def tab:List (Nat× (Func×Cfg)):=[(8,(Tryz.f8,zji)),(11,(Tryz.f11,zVU)),(12,(Tryz.f12,zVc)),(13,(Tryz.f13,zVk)),(14,(Tryz.f14,zVq)),(17,(Tryz.f17,zVV)),(18,(Tryz.f18,zVd)),(20,(Tryz.f20,zVr)),(22,(Tryz.f22,zcj)),(24,(Tryz.f24,zVe)),(27,(Tryz.f27,zVH)),(29,(Tryz.f29,zZI)),(33,(Tryz.f33,zcY)),(36,(Tryz.f36,zVf)),(37,(Tryz.f37,zVl)),(38,(Tryz.f38,zVs)),(39,(Tryz.f39,zVI)),(40,(Tryz.f40,zVN)),(41,(Tryz.f41,zSh)),(42,(Tryz.f42,zSr)),(44,(Tryz.f44,zVt)),(45,(Tryz.f45,zVJ)),(46,(Tryz.f46,zVO)),(47,(Tryz.f47,zVW)),(48,(Tryz.f48,zVg)),(49,(Tryz.f49,zZV)),(50,(Tryz.f50,zVu)),(53,(Tryz.f53,zZL)),(54,(Tryz.f54,zdG)),(55,(Tryz.f55,zdY)),(56,(Tryz.f56,zdm)),(57,(Tryz.f57,zVK)),(58,(Tryz.f58,zcl)),(60,(Tryz.f60,zdH)),(62,(Tryz.f62,zdn)),(64,(Tryz.f64,zVP)),(68,(Tryz.f68,zVv)),(69,(Tryz.f69,zVL)),(70,(Tryz.f70,zVQ)),(71,(Tryz.f71,zVX)),(72,(Tryz.f72,zVh)),(73,(Tryz.f73,zVm)),(74,(Tryz.f74,zVx)),(75,(Tryz.f75,zVM)),(76,(Tryz.f76,zVR)),(77,(Tryz.f77,zVY)),(78,(Tryz.f78,zSs)),(79,(Tryz.f79,zQg)),(82,(Tryz.f82,zVS)),(83,(Tryz.f83,zVZ)),(84,(Tryz.f84,zdI)),(85,(Tryz.f85,zdZ)),(86,(Tryz.f86,zdo)),(88,(Tryz.f88,zcm)),(90,(Tryz.f90,zdJ)),(91,(Tryz.f91,zVn)),(92,(Tryz.f92,zdp)),(93,(Tryz.f93,zcZ)),(94,(Tryz.f94,zZH)),(95,(Tryz.f95,zZN)),(96,(Tryz.f96,zdK)),(97,(Tryz.f97,zVo)),(98,(Tryz.f98,zVy)),(100,(Tryz.f100,zOy)),(104,(Tryz.f104,zPU)),(105,(Tryz.f105,zOv)),(106,(Tryz.f106,zOz)),(107,(Tryz.f107,zO6)),(108,(Tryz.f108,zPE)),(109,(Tryz.f109,zPN)),(110,(Tryz.f110,zXu)),(111,(Tryz.f111,zOw)),(112,(Tryz.f112,zO0)),(113,(Tryz.f113,zLv)),(114,(Tryz.f114,zPF)),(115,(Tryz.f115,zPO)),(116,(Tryz.f116,zPV)),(117,(Tryz.f117,zSJ)),(118,(Tryz.f118,zO1)),(119,(Tryz.f119,zLw)),(120,(Tryz.f120,zPG)),(121,(Tryz.f121,zPP)),(128,(Tryz.f128,zPW)),(130,(Tryz.f130,zXf)),(132,(Tryz.f132,zSY)),(133,(Tryz.f133,zXl)),(134,(Tryz.f134,zXp)),(135,(Tryz.f135,zXr)),(136,(Tryz.f136,zXv)),(137,(Tryz.f137,zXg)),(138,(Tryz.f138,zXj)),(140,(Tryz.f140,zXq)),(142,(Tryz.f142,zXw)),(144,(Tryz.f144,zSZ)),(145,(Tryz.f145,zXm)),(147,(Tryz.f147,zPQ)),(148,(Tryz.f148,zPX)),(151,(Tryz.f151,zO7)),(153,(Tryz.f153,zPR)),(155,(Tryz.f155,zLq)),(156,(Tryz.f156,zLs)),(157,(Tryz.f157,zJD)),(158,(Tryz.f158,zJE)),(159,(Tryz.f159,zJF)),(160,(Tryz.f160,zL1)),(161,(Tryz.f161,zXh)),(162,(Tryz.f162,zXk)),(163,(Tryz.f163,zO8)),(164,(Tryz.f164,zPH)),(165,(Tryz.f165,zS2)),(166,(Tryz.f166,zTF)),(167,(Tryz.f167,zSM)),(168,(Tryz.f168,zLt)),(169,(Tryz.f169,zO9)),(170,(Tryz.f170,zPI)),(171,(Tryz.f171,zPS)),(172,(Tryz.f172,zPY)),(190,(Tryz.f190,zXi)),(200,(Tryz.f200,zO2)),(201,(Tryz.f201,zPA)),(203,(Tryz.f203,zPT)),(204,(Tryz.f204,zPZ)),(206,(Tryz.f206,zO3)),(207,(Tryz.f207,zPB)),(208,(Tryz.f208,zPK)),(210,(Tryz.f210,zXx)),(216,(Tryz.f216,zXy)),(220,(Tryz.f220,zXn)),(221,(Tryz.f221,zPL)),(229,(Tryz.f229,zTI)),(230,(Tryz.f230,zSR)),(231,(Tryz.f231,zO4)),(252,(Tryz.f252,zXs)),(262,(Tryz.f262,zJG)),(263,(Tryz.f263,zOx)),(264,(Tryz.f264,zO5)),(265,(Tryz.f265,zPC)),(266,(Tryz.f266,zPM)),(275,(Tryz.f275,zTK)),(317,(Tryz.f317,zPa)),(320,(Tryz.f320,zSo)),(341,(Tryz.f341,zPb))]
theorem yv:zFE Tryz.prog tab:=⟨⟨Tryz.func8,ok8⟩,⟨Tryz.func11,zjI⟩,⟨Tryz.func12,zjS⟩,⟨Tryz.func13,zjb⟩,⟨Tryz.func14,zjj⟩,⟨Tryz.func17,zjJ⟩,⟨Tryz.func18,zjT⟩,⟨Tryz.func20,zjk⟩,⟨Tryz.func22,zkL⟩,⟨Tryz.func24,zjU⟩,⟨Tryz.func27,zi3⟩,⟨Tryz.func29,zjK⟩,⟨Tryz.func33,zkB⟩,⟨Tryz.func36,zjV⟩,⟨Tryz.func37,zjc⟩,⟨Tryz.func38,zjl⟩,⟨Tryz.func39,zi4⟩,⟨Tryz.func40,zjA⟩,⟨Tryz.func41,zjL⟩,⟨Tryz.func42,zjW⟩,⟨Tryz.func44,zjm⟩,⟨Tryz.func45,zi5⟩,⟨Tryz.func46,zjB⟩,⟨Tryz.func47,zjM⟩,⟨Tryz.func48,zjX⟩,⟨Tryz.func49,zjd⟩,⟨Tryz.func50,zjn⟩,⟨Tryz.func53,zjN⟩,⟨Tryz.func54,zkV⟩,⟨Tryz.func55,zke⟩,⟨Tryz.func56,zkm⟩,⟨Tryz.func57,zi6⟩,⟨Tryz.func58,zkN⟩,⟨Tryz.func60,zkW⟩,⟨Tryz.func62,zkn⟩,⟨Tryz.func64,zjC⟩,⟨Tryz.func68,zjo⟩,⟨Tryz.func69,zi8⟩,⟨Tryz.func70,zjD⟩,⟨Tryz.func71,zjO⟩,⟨Tryz.func72,zjZ⟩,⟨Tryz.func73,zjf⟩,⟨Tryz.func74,zjp⟩,⟨Tryz.func75,zi9⟩,⟨Tryz.func76,zjF⟩,⟨Tryz.func77,zjP⟩,⟨Tryz.func78,zja⟩,⟨Tryz.func79,zfc⟩,⟨Tryz.func82,zjG⟩,⟨Tryz.func83,zjQ⟩,⟨Tryz.func84,zkY⟩,⟨Tryz.func85,zkj⟩,⟨Tryz.func86,zkp⟩,⟨Tryz.func88,zkP⟩,⟨Tryz.func90,zkZ⟩,⟨Tryz.func91,zjg⟩,⟨Tryz.func92,zkq⟩,⟨Tryz.func93,zkG⟩,⟨Tryz.func94,zjH⟩,⟨Tryz.func95,zjR⟩,⟨Tryz.func96,zka⟩,⟨Tryz.func97,zjh⟩,⟨Tryz.func98,zjq⟩,⟨Tryz.func100,zcn⟩,⟨Tryz.func104,zdq⟩,⟨Tryz.func105,zca⟩,⟨Tryz.func106,zco⟩,⟨Tryz.func107,zc3⟩,⟨Tryz.func108,zdM⟩,⟨Tryz.func109,zda⟩,⟨Tryz.func110,zhr⟩,⟨Tryz.func111,zcb⟩,⟨Tryz.func112,zcp⟩,⟨Tryz.func113,zZO⟩,⟨Tryz.func114,zdN⟩,⟨Tryz.func115,zdb⟩,⟨Tryz.func116,zdr⟩,⟨Tryz.func117,zcc⟩,⟨Tryz.func118,zcq⟩,⟨Tryz.func119,zc4⟩,⟨Tryz.func120,zdO⟩,⟨Tryz.func121,zdd⟩,⟨Tryz.func128,zds⟩,⟨Tryz.func130,zge⟩,⟨Tryz.func132,zcr⟩,⟨Tryz.func133,zhB⟩,⟨Tryz.func134,zhQ⟩,⟨Tryz.func135,zhg⟩,⟨Tryz.func136,zht⟩,⟨Tryz.func137,zgf⟩,⟨Tryz.func138,zgw⟩,⟨Tryz.func140,zhR⟩,⟨Tryz.func142,zhu⟩,⟨Tryz.func144,zcs⟩,⟨Tryz.func145,zhC⟩,⟨Tryz.func147,zdf⟩,⟨Tryz.func148,zdu⟩,⟨Tryz.func151,zc6⟩,⟨Tryz.func153,zdg⟩,⟨Tryz.func155,zce⟩,⟨Tryz.func156,zct⟩,⟨Tryz.func157,zc7⟩,⟨Tryz.func158,zdP⟩,⟨Tryz.func159,zdh⟩,⟨Tryz.func160,zdv⟩,⟨Tryz.func161,zgi⟩,⟨Tryz.func162,zgz⟩,⟨Tryz.func163,zc8⟩,⟨Tryz.func164,zdQ⟩,⟨Tryz.func165,zdi⟩,⟨Tryz.func166,zdw⟩,⟨Tryz.func167,zcf⟩,⟨Tryz.func168,zcu⟩,⟨Tryz.func169,zc9⟩,⟨Tryz.func170,zdR⟩,⟨Tryz.func171,zdj⟩,⟨Tryz.func172,zdy⟩,⟨Tryz.func190,zgl⟩,⟨Tryz.func200,zcv⟩,⟨Tryz.func201,zdB⟩,⟨Tryz.func203,zdk⟩,⟨Tryz.func204,zdz⟩,⟨Tryz.func206,zcw⟩,⟨Tryz.func207,zdC⟩,⟨Tryz.func208,zdU⟩,⟨Tryz.func210,zhy⟩,⟨Tryz.func216,zhz⟩,⟨Tryz.func220,zhI⟩,⟨Tryz.func221,zdV⟩,⟨Tryz.func229,zd0⟩,⟨Tryz.func230,zch⟩,⟨Tryz.func231,zcy⟩,⟨Tryz.func252,zhm⟩,⟨Tryz.func262,zd1⟩,⟨Tryz.func263,zci⟩,⟨Tryz.func264,zc0⟩,⟨Tryz.func265,zdD⟩,⟨Tryz.func266,zdX⟩,⟨Tryz.func275,zd2⟩,⟨Tryz.func317,zd3⟩,⟨Tryz.func320,zdE⟩,⟨Tryz.func341,zd4⟩,trivial⟩
theorem mix:Tryz.prog.follows .mixedOrders=true:=by kernel_rfl
end Go.V
