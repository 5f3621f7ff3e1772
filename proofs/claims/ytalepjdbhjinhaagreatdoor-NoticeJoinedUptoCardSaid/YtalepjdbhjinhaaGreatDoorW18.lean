/- How functions of this program are read by the machine, part 1. No condition. -/
import Derived.Test.YtalepjdbhjinhaaGreatDoorW04
import Derived.KernelRfl
import Derived.Test.YtalepjdbhjinhaaGreatDoorProg
set_option linter.all false
noncomputable section
namespace Go.V
open Go.Proofs
def ziJ:Cfg:=zG [] []
theorem ok9:zj Tryz.prog ziJ Tryz.f9=true:=by kernel_rfl
def zUh:Cfg:=zG [] [(20,[(0, .no),(1, .st),(2, .no),(3, .st),(4, .no),(7, .no),(8, .st),(9, .no),(10, .st),(11, .no),(14, .no),(15, .st),(16, .no),(17, .st),(18, .no),(5, .st),(6, .st),(12, .st),(13, .st),(19, .st),(20, .st)]++nr 21 3)]
theorem zUF (t:Tmp):zUh.mu t=List.contains (α:=Nat) [] t:=(rfl)
theorem ziK:zj Tryz.prog zUh Tryz.f21=true:=by kernel_rfl
def zY2:Cfg:=zG [] []
theorem zUi (t:Tmp):zY2.mu t=List.contains (α:=Nat) [] t:=(rfl)
theorem zjO:zj Tryz.prog zY2 Tryz.f33=true:=by kernel_rfl
def zUj:Cfg:=zG [] []
theorem zKG (t:Tmp):zUj.mu t=List.contains (α:=Nat) [] t:=(rfl)
theorem ziL:zj Tryz.prog zUj Tryz.f39=true:=by kernel_rfl
def zY3:Cfg:=zG [] []
theorem ziM:zj Tryz.prog zY3 Tryz.f45=true:=by kernel_rfl
def zRf:Cfg:=zG [] [(1,nr 0 12)]
theorem zeh (t:Tmp):zRf.mu t=List.contains (α:=Nat) [] t:=(rfl)
theorem zfa:zj Tryz.prog zRf Tryz.f51=true:=by kernel_rfl
def zY4:Cfg:=zG [] []
theorem ziN:zj Tryz.prog zY4 Tryz.f60=true:=by kernel_rfl
def zcF:Cfg:=zG [] []
theorem zjP:zj Tryz.prog zcF Tryz.f72=true:=by kernel_rfl
def zY5:Cfg:=zG [] [(7,nr 0 26),(11,nr 0 26),(15,nr 0 18),(23,nr 0 18)]
theorem zHM (t:Tmp):zY5.mu t=List.contains (α:=Nat) [] t:=(rfl)
theorem zjQ:zj Tryz.prog zY5 Tryz.f78=true:=by kernel_rfl
def zcG:Cfg:=zG [] []
theorem zjR:zj Tryz.prog zcG Tryz.f84=true:=by kernel_rfl
def zUk:Cfg:=zG [] []
theorem zjS (t:Tmp):zUk.mu t=List.contains (α:=Nat) [] t:=(rfl)
theorem ziO:zj Tryz.prog zUk Tryz.f90=true:=by kernel_rfl
def zY6:Cfg:=zG [] [(9,nr 0 25)]
theorem zei (t:Tmp):zY6.mu t=List.contains (α:=Nat) [] t:=(rfl)
theorem zjT:zj Tryz.prog zY6 Tryz.f96=true:=by kernel_rfl
def zWu:Cfg:=zG [] []
theorem zfb:zj Tryz.prog zWu Tryz.f102=true:=by kernel_rfl
def zOV:Cfg:=zG [31] []
theorem zfc (t:Tmp):zOV.mu t=List.contains (α:=Nat) [31] t:=(rfl)
theorem zcH:zj Tryz.prog zOV Tryz.f110=true:=by kernel_rfl
def zRg:Cfg:=zG [] []
theorem zcI:zj Tryz.prog zRg Tryz.f122=true:=by kernel_rfl
def zWv:Cfg:=zG [] [(8,nr 0 12),(10,nr 0 17),(14,nr 0 9++nr 10 4++ [(14, .st),(15, .no),(16, .no),(9, .no)]++nr 17 9)]
theorem zfd:zj Tryz.prog zWv Tryz.f128=true:=by kernel_rfl
def zOW:Cfg:=zG [] []
theorem zNB (t:Tmp):zOW.mu t=List.contains (α:=Nat) [] t:=(rfl)
theorem zcJ:zj Tryz.prog zOW Tryz.f134=true:=by kernel_rfl
def zOX:Cfg:=zG [] []
theorem zcK (t:Tmp):zOX.mu t=List.contains (α:=Nat) [] t:=(rfl)
theorem zcL:zj Tryz.prog zOX Tryz.f140=true:=by kernel_rfl
def zOY:Cfg:=zG [] [(4,nr 0 10)]
theorem zNC (t:Tmp):zOY.mu t=List.contains (α:=Nat) [] t:=(rfl)
theorem zcM:zj Tryz.prog zOY Tryz.f146=true:=by kernel_rfl
def zRh:Cfg:=zG [] []
theorem zcN:zj Tryz.prog zRh Tryz.f164=true:=by kernel_rfl
def zWw:Cfg:=zG [] [(4,nr 0 17),(6,nr 0 18)]
theorem zfe:zj Tryz.prog zWw Tryz.f171=true:=by kernel_rfl
def zRi:Cfg:=zG [] []
theorem zcO:zj Tryz.prog zRi Tryz.f177=true:=by kernel_rfl
def zRj:Cfg:=zG [] [(11,nr 0 19)]
theorem zFF (t:Tmp):zRj.mu t=List.contains (α:=Nat) [] t:=(rfl)
theorem zff:zj Tryz.prog zRj Tryz.f183=true:=by kernel_rfl
def zLc:Cfg:=zG [] []
theorem zIO (t:Tmp):zLc.mu t=List.contains (α:=Nat) [] t:=(rfl)
theorem zcP:zj Tryz.prog zLc Tryz.f196=true:=by kernel_rfl
def zWx:Cfg:=zG [] []
theorem zfg:zj Tryz.prog zWx Tryz.f211=true:=by kernel_rfl
def zLd:Cfg:=zG [] []
theorem zKH (t:Tmp):zLd.mu t=List.contains (α:=Nat) [] t:=(rfl)
theorem zcQ:zj Tryz.prog zLd Tryz.f225=true:=by kernel_rfl
def zRk:Cfg:=zG [] []
theorem zcR (t:Tmp):zRk.mu t=List.contains (α:=Nat) [] t:=(rfl)
theorem zfh:zj Tryz.prog zRk Tryz.f231=true:=by kernel_rfl
def zLe:Cfg:=zG [] []
theorem zRl (t:Tmp):zLe.mu t=List.contains (α:=Nat) [] t:=(rfl)
theorem zcS:zj Tryz.prog zLe Tryz.f252=true:=by kernel_rfl
def zRm:Cfg:=zG [] []
theorem zfi (t:Tmp):zRm.mu t=List.contains (α:=Nat) [] t:=(rfl)
theorem zfj:zj Tryz.prog zRm Tryz.f258=true:=by kernel_rfl
def zRn:Cfg:=zG [] []
theorem zfk (t:Tmp):zRn.mu t=List.contains (α:=Nat) [] t:=(rfl)
theorem zfl:zj Tryz.prog zRn Tryz.f264=true:=by kernel_rfl
def zRo:Cfg:=zG [] [(11,nr 0 20),(16,nr 0 12)]
theorem zHN (t:Tmp):zRo.mu t=List.contains (α:=Nat) [] t:=(rfl)
theorem zfm:zj Tryz.prog zRo Tryz.f280=true:=by kernel_rfl
def zRp:Cfg:=zG [] []
theorem zRq (t:Tmp):zRp.mu t=List.contains (α:=Nat) [] t:=(rfl)
theorem zfn:zj Tryz.prog zRp Tryz.f295=true:=by kernel_rfl
def zfo:Cfg:=zG [] [(20,nr 0 8++ [(9, .no),(10, .st),(11, .no),(8, .no)]++nr 12 3)]
theorem mu4 (t:Tmp):zfo.mu t=List.contains (α:=Nat) [] t:=(rfl)
theorem ok4:zj Tryz.prog zfo Tryz.f4=true:=by kernel_rfl
def zRr:Cfg:=zG [] []
theorem za4 (t:Tmp):zRr.mu t=List.contains (α:=Nat) [] t:=(rfl)
theorem ziP:zj Tryz.prog zRr Tryz.f10=true:=by kernel_rfl
def zUl:Cfg:=zG [] []
theorem zWy (t:Tmp):zUl.mu t=List.contains (α:=Nat) [] t:=(rfl)
theorem ziQ:zj Tryz.prog zUl Tryz.f22=true:=by kernel_rfl
def zUm:Cfg:=zG [7] []
theorem zjU (t:Tmp):zUm.mu t=List.contains (α:=Nat) [7] t:=(rfl)
theorem ziR:zj Tryz.prog zUm Tryz.f28=true:=by kernel_rfl
def zY7:Cfg:=zG [] []
theorem zWz (t:Tmp):zY7.mu t=List.contains (α:=Nat) [] t:=(rfl)
theorem zjV:zj Tryz.prog zY7 Tryz.f34=true:=by kernel_rfl
def zRs:Cfg:=zG [] []
theorem ziS (t:Tmp):zRs.mu t=List.contains (α:=Nat) [] t:=(rfl)
theorem zfp:zj Tryz.prog zRs Tryz.f40=true:=by kernel_rfl
def zUn:Cfg:=zG [33] []
theorem zcT (t:Tmp):zUn.mu t=List.contains (α:=Nat) [33] t:=(rfl)
theorem ziT:zj Tryz.prog zUn Tryz.f46=true:=by kernel_rfl
def zY8:Cfg:=zG [] [(7,nr 0 14)]
theorem ziU:zj Tryz.prog zY8 Tryz.f55=true:=by kernel_rfl
def zcU:Cfg:=zG [] []
theorem zjW:zj Tryz.prog zcU Tryz.f61=true:=by kernel_rfl
def zUo:Cfg:=zG [] []
theorem zfq (t:Tmp):zUo.mu t=List.contains (α:=Nat) [] t:=(rfl)
theorem ziV:zj Tryz.prog zUo Tryz.f67=true:=by kernel_rfl
def zY9:Cfg:=zG [] [(1,nr 0 4++ [(5, .no),(6, .st),(7, .no),(8, .st),(4, .no)]++nr 9 4)]
theorem ziW (t:Tmp):zY9.mu t=List.contains (α:=Nat) [] t:=(rfl)
theorem zjX:zj Tryz.prog zY9 Tryz.f73=true:=by kernel_rfl
def zZA:Cfg:=zG [] []
theorem ziX (t:Tmp):zZA.mu t=List.contains (α:=Nat) [] t:=(rfl)
theorem zjY:zj Tryz.prog zZA Tryz.f79=true:=by kernel_rfl
def zcV:Cfg:=zG [] [(6,nr 0 10),(11,nr 0 10)]
theorem zjZ:zj Tryz.prog zcV Tryz.f85=true:=by kernel_rfl
def zUp:Cfg:=zG [] []
theorem zja (t:Tmp):zUp.mu t=List.contains (α:=Nat) [] t:=(rfl)
theorem ziY:zj Tryz.prog zUp Tryz.f91=true:=by kernel_rfl
def zUq:Cfg:=zG [] [(16,nr 0 8++ [(13, .no)]++nr 8 5++nr 14 4)]
theorem zW0 (t:Tmp):zUq.mu t=List.contains (α:=Nat) [] t:=(rfl)
theorem ziZ:zj Tryz.prog zUq Tryz.f97=true:=by kernel_rfl
def zW1:Cfg:=zG [] []
theorem zfr:zj Tryz.prog zW1 Tryz.f103=true:=by kernel_rfl
def zW2:Cfg:=zG [] []
theorem zfs:zj Tryz.prog zW2 Tryz.f111=true:=by kernel_rfl
def zW3:Cfg:=zG [] []
theorem zft:zj Tryz.prog zW3 Tryz.f117=true:=by kernel_rfl
def zW4:Cfg:=zG [] []
theorem zfu:zj Tryz.prog zW4 Tryz.f123=true:=by kernel_rfl
def zW5:Cfg:=zG [] []
theorem zfv:zj Tryz.prog zW5 Tryz.f129=true:=by kernel_rfl
def zOZ:Cfg:=zG [] []
theorem zZB (t:Tmp):zOZ.mu t=List.contains (α:=Nat) [] t:=(rfl)
theorem zcW:zj Tryz.prog zOZ Tryz.f135=true:=by kernel_rfl
def zOa:Cfg:=zG [] []
theorem zcX (t:Tmp):zOa.mu t=List.contains (α:=Nat) [] t:=(rfl)
theorem zcY:zj Tryz.prog zOa Tryz.f141=true:=by kernel_rfl
def zRt:Cfg:=zG [] []
theorem zcZ:zj Tryz.prog zRt Tryz.f147=true:=by kernel_rfl
def zW6:Cfg:=zG [] [(4,nr 0 5)]
theorem zfw:zj Tryz.prog zW6 Tryz.f166=true:=by kernel_rfl
def zW7:Cfg:=zG [] [(4,nr 0 17),(6,nr 0 18)]
theorem zfx:zj Tryz.prog zW7 Tryz.f178=true:=by kernel_rfl
def zW8:Cfg:=zG [] [(4,nr 0 15),(6,nr 0 18)]
theorem zfy:zj Tryz.prog zW8 Tryz.f184=true:=by kernel_rfl
def zW9:Cfg:=zG [] []
theorem zfz:zj Tryz.prog zW9 Tryz.f190=true:=by kernel_rfl
def zI1:Cfg:=zG [] []
theorem zBF (t:Tmp):zI1.mu t=List.contains (α:=Nat) [] t:=(rfl)
theorem zUr:zj Tryz.prog zI1 Tryz.f197=true:=by kernel_rfl
def zOb:Cfg:=zG [] []
theorem zf0 (t:Tmp):zOb.mu t=List.contains (α:=Nat) [] t:=(rfl)
theorem zca:zj Tryz.prog zOb Tryz.f226=true:=by kernel_rfl
def zRu:Cfg:=zG [] []
theorem zUs (t:Tmp):zRu.mu t=List.contains (α:=Nat) [] t:=(rfl)
theorem zf1:zj Tryz.prog zRu Tryz.f232=true:=by kernel_rfl
def zOc:Cfg:=zG [] []
theorem zUt (t:Tmp):zOc.mu t=List.contains (α:=Nat) [] t:=(rfl)
theorem zcb:zj Tryz.prog zOc Tryz.f253=true:=by kernel_rfl
def zRv:Cfg:=zG [] []
theorem zf2 (t:Tmp):zRv.mu t=List.contains (α:=Nat) [] t:=(rfl)
theorem zf3:zj Tryz.prog zRv Tryz.f259=true:=by kernel_rfl
def zRw:Cfg:=zG [] []
theorem zcc (t:Tmp):zRw.mu t=List.contains (α:=Nat) [] t:=(rfl)
theorem zf4:zj Tryz.prog zRw Tryz.f265=true:=by kernel_rfl
def zRx:Cfg:=zG [] [(11,nr 0 8),(16,nr 0 12),(18,nr 0 3++ [(9, .no)]++nr 3 6++nr 10 3)]
theorem zF9 (t:Tmp):zRx.mu t=List.contains (α:=Nat) [] t:=(rfl)
theorem zf5:zj Tryz.prog zRx Tryz.f281=true:=by kernel_rfl
def zRy:Cfg:=zG [] []
theorem zND (t:Tmp):zRy.mu t=List.contains (α:=Nat) [] t:=(rfl)
theorem zf6:zj Tryz.prog zRy Tryz.f287=true:=by kernel_rfl
def zRz:Cfg:=zG [] []
theorem zNE (t:Tmp):zRz.mu t=List.contains (α:=Nat) [] t:=(rfl)
theorem zf7:zj Tryz.prog zRz Tryz.f296=true:=by kernel_rfl
def zUu:Cfg:=zG [] []
theorem zKI (t:Tmp):zUu.mu t=List.contains (α:=Nat) [] t:=(rfl)
theorem zia:zj Tryz.prog zUu Tryz.f23=true:=by kernel_rfl
def zcd:Cfg:=zG [17] [(7,nr 0 10)]
theorem zjb:zj Tryz.prog zcd Tryz.f29=true:=by kernel_rfl
def zUv:Cfg:=zG [] []
theorem zQi (t:Tmp):zUv.mu t=List.contains (α:=Nat) [] t:=(rfl)
theorem zib:zj Tryz.prog zUv Tryz.f35=true:=by kernel_rfl
def zPz:Cfg:=zG [] [(7,nr 0 21)]
theorem zP0 (t:Tmp):zPz.mu t=List.contains (α:=Nat) [] t:=(rfl)
theorem zej:zj Tryz.prog zPz Tryz.f47=true:=by kernel_rfl
def zZC:Cfg:=zG [] []
theorem zic:zj Tryz.prog zZC Tryz.f56=true:=by kernel_rfl
def zZD:Cfg:=zG [] []
theorem zid:zj Tryz.prog zZD Tryz.f62=true:=by kernel_rfl
def zce:Cfg:=zG [] []
theorem zjc:zj Tryz.prog zce Tryz.f68=true:=by kernel_rfl
def zcf:Cfg:=zG [] []
theorem zjd:zj Tryz.prog zcf Tryz.f74=true:=by kernel_rfl
def zZE:Cfg:=zG [] []
theorem zje (t:Tmp):zZE.mu t=List.contains (α:=Nat) [] t:=(rfl)
theorem zjf:zj Tryz.prog zZE Tryz.f80=true:=by kernel_rfl
def zUw:Cfg:=zG [] []
theorem zR0 (t:Tmp):zUw.mu t=List.contains (α:=Nat) [] t:=(rfl)
theorem zie:zj Tryz.prog zUw Tryz.f86=true:=by kernel_rfl
def zR1:Cfg:=zG [] []
theorem zKJ (t:Tmp):zR1.mu t=List.contains (α:=Nat) [] t:=(rfl)
theorem zif:zj Tryz.prog zR1 Tryz.f92=true:=by kernel_rfl
def zZF:Cfg:=zG [] [(9,nr 0 9++ [(14, .no)]++nr 9 5++nr 15 4)]
theorem zXA (t:Tmp):zZF.mu t=List.contains (α:=Nat) [] t:=(rfl)
theorem zjg:zj Tryz.prog zZF Tryz.f98=true:=by kernel_rfl
def zXB:Cfg:=zG [] []
theorem zf8:zj Tryz.prog zXB Tryz.f106=true:=by kernel_rfl
def zXC:Cfg:=zG [] []
theorem zf9:zj Tryz.prog zXC Tryz.f112=true:=by kernel_rfl
def zOd:Cfg:=zG [] []
theorem zgA (t:Tmp):zOd.mu t=List.contains (α:=Nat) [] t:=(rfl)
theorem zcg:zj Tryz.prog zOd Tryz.f118=true:=by kernel_rfl
def zXD:Cfg:=zG [] []
theorem zgB:zj Tryz.prog zXD Tryz.f124=true:=by kernel_rfl
def zOe:Cfg:=zG [] []
theorem zNF (t:Tmp):zOe.mu t=List.contains (α:=Nat) [] t:=(rfl)
theorem zch:zj Tryz.prog zOe Tryz.f130=true:=by kernel_rfl
def zOf:Cfg:=zG [] []
theorem zR2 (t:Tmp):zOf.mu t=List.contains (α:=Nat) [] t:=(rfl)
theorem zci:zj Tryz.prog zOf Tryz.f136=true:=by kernel_rfl
def zR3:Cfg:=zG [] []
theorem zgC (t:Tmp):zR3.mu t=List.contains (α:=Nat) [] t:=(rfl)
theorem zgD:zj Tryz.prog zR3 Tryz.f142=true:=by kernel_rfl
def zXE:Cfg:=zG [] []
theorem zgE:zj Tryz.prog zXE Tryz.f149=true:=by kernel_rfl
def zXF:Cfg:=zG [] []
theorem zgF:zj Tryz.prog zXF Tryz.f167=true:=by kernel_rfl
def zXG:Cfg:=zG [] [(4,nr 0 17),(6,nr 0 18)]
theorem zgG:zj Tryz.prog zXG Tryz.f173=true:=by kernel_rfl
def zR4:Cfg:=zG [] []
theorem zR5 (t:Tmp):zR4.mu t=List.contains (α:=Nat) [] t:=(rfl)
theorem zgH:zj Tryz.prog zR4 Tryz.f198=true:=by kernel_rfl
def zOg:Cfg:=zG [] []
theorem zcj (t:Tmp):zOg.mu t=List.contains (α:=Nat) [] t:=(rfl)
theorem zck:zj Tryz.prog zOg Tryz.f227=true:=by kernel_rfl
def zR6:Cfg:=zG [] []
theorem zcl:zj Tryz.prog zR6 Tryz.f240=true:=by kernel_rfl
def zR7:Cfg:=zG [] []
theorem zBb (t:Tmp):zR7.mu t=List.contains (α:=Nat) [] t:=(rfl)
theorem zgI:zj Tryz.prog zR7 Tryz.f248=true:=by kernel_rfl
def zOh:Cfg:=zG [] []
theorem zgJ (t:Tmp):zOh.mu t=List.contains (α:=Nat) [] t:=(rfl)
theorem zcm:zj Tryz.prog zOh Tryz.f254=true:=by kernel_rfl
def zR8:Cfg:=zG [] [(1,nr 0 4++ [(5, .no),(6, .st),(7, .no),(8, .st),(4, .no)]++nr 9 4)]
theorem zcn (t:Tmp):zR8.mu t=List.contains (α:=Nat) [] t:=(rfl)
theorem zgK:zj Tryz.prog zR8 Tryz.f260=true:=by kernel_rfl
def zOi:Cfg:=zG [2] []
theorem zR9 (t:Tmp):zOi.mu t=List.contains (α:=Nat) [2] t:=(rfl)
theorem zgL:zj Tryz.prog zOi Tryz.f266=true:=by kernel_rfl
def zSA:Cfg:=zG [] [(4,nr 0 9++ [(15, .no)]++nr 9 6++nr 16 4)]
theorem zUx (t:Tmp):zSA.mu t=List.contains (α:=Nat) [] t:=(rfl)
theorem zgM:zj Tryz.prog zSA Tryz.f282=true:=by kernel_rfl
def zSB:Cfg:=zG [] []
theorem zgN (t:Tmp):zSB.mu t=List.contains (α:=Nat) [] t:=(rfl)
theorem zgO:zj Tryz.prog zSB Tryz.f288=true:=by kernel_rfl
def zSC:Cfg:=zG [] []
theorem zUy (t:Tmp):zSC.mu t=List.contains (α:=Nat) [] t:=(rfl)
theorem zgP:zj Tryz.prog zSC Tryz.f297=true:=by kernel_rfl
def zig:Cfg:=zG [] []
theorem ok6:zj Tryz.prog zig Tryz.f6=true:=by kernel_rfl
def zco:Cfg:=zG [] []
theorem zjh:zj Tryz.prog zco Tryz.f24=true:=by kernel_rfl
def zcp:Cfg:=zG [] []
theorem zji:zj Tryz.prog zcp Tryz.f30=true:=by kernel_rfl
def zSD:Cfg:=zG [] []
theorem zih (t:Tmp):zSD.mu t=List.contains (α:=Nat) [] t:=(rfl)
theorem zgQ:zj Tryz.prog zSD Tryz.f36=true:=by kernel_rfl
def zUz:Cfg:=zG [] []
theorem zKK (t:Tmp):zUz.mu t=List.contains (α:=Nat) [] t:=(rfl)
theorem zii:zj Tryz.prog zUz Tryz.f42=true:=by kernel_rfl
def zZG:Cfg:=zG [] []
theorem zij:zj Tryz.prog zZG Tryz.f48=true:=by kernel_rfl
def zZH:Cfg:=zG [] []
theorem zik:zj Tryz.prog zZH Tryz.f57=true:=by kernel_rfl
def zZI:Cfg:=zG [] []
theorem zil:zj Tryz.prog zZI Tryz.f63=true:=by kernel_rfl
def zcq:Cfg:=zG [] []
theorem zjj:zj Tryz.prog zcq Tryz.f75=true:=by kernel_rfl
def zZJ:Cfg:=zG [] [(12,nr 0 23)]
theorem zSE (t:Tmp):zZJ.mu t=List.contains (α:=Nat) [] t:=(rfl)
theorem zjk:zj Tryz.prog zZJ Tryz.f81=true:=by kernel_rfl
def zU0:Cfg:=zG [] []
theorem zjl (t:Tmp):zU0.mu t=List.contains (α:=Nat) [] t:=(rfl)
theorem zim:zj Tryz.prog zU0 Tryz.f87=true:=by kernel_rfl
def zSF:Cfg:=zG [] []
theorem zin (t:Tmp):zSF.mu t=List.contains (α:=Nat) [] t:=(rfl)
theorem zgR:zj Tryz.prog zSF Tryz.f93=true:=by kernel_rfl
def zSG:Cfg:=zG [22] []
theorem zio (t:Tmp):zSG.mu t=List.contains (α:=Nat) [22] t:=(rfl)
theorem zgS:zj Tryz.prog zSG Tryz.f99=true:=by kernel_rfl
def zSH:Cfg:=zG [] []
theorem zcr:zj Tryz.prog zSH Tryz.f107=true:=by kernel_rfl
def zXH:Cfg:=zG [] [(7,nr 0 12),(9,nr 0 17),(11,nr 0 21)]
theorem zgT:zj Tryz.prog zXH Tryz.f113=true:=by kernel_rfl
def zXI:Cfg:=zG [] []
theorem zgU:zj Tryz.prog zXI Tryz.f119=true:=by kernel_rfl
def zOj:Cfg:=zG [] []
theorem zgV (t:Tmp):zOj.mu t=List.contains (α:=Nat) [] t:=(rfl)
theorem zcs:zj Tryz.prog zOj Tryz.f125=true:=by kernel_rfl
def zSI:Cfg:=zG [] [(10,nr 0 12)]
theorem zLf (t:Tmp):zSI.mu t=List.contains (α:=Nat) [] t:=(rfl)
theorem zgW:zj Tryz.prog zSI Tryz.f131=true:=by kernel_rfl
def zOk:Cfg:=zG [] []
theorem zSJ (t:Tmp):zOk.mu t=List.contains (α:=Nat) [] t:=(rfl)
theorem zct:zj Tryz.prog zOk Tryz.f137=true:=by kernel_rfl
def zSK:Cfg:=zG [] []
theorem zgX (t:Tmp):zSK.mu t=List.contains (α:=Nat) [] t:=(rfl)
theorem zgY:zj Tryz.prog zSK Tryz.f143=true:=by kernel_rfl
def zSL:Cfg:=zG [] []
theorem zcu:zj Tryz.prog zSL Tryz.f161=true:=by kernel_rfl
def zXJ:Cfg:=zG [] []
theorem zgZ:zj Tryz.prog zXJ Tryz.f168=true:=by kernel_rfl
def zOl:Cfg:=zG [] []
theorem zSM (t:Tmp):zOl.mu t=List.contains (α:=Nat) [] t:=(rfl)
theorem zcv:zj Tryz.prog zOl Tryz.f180=true:=by kernel_rfl
def zXK:Cfg:=zG [] []
theorem zga:zj Tryz.prog zXK Tryz.f199=true:=by kernel_rfl
def zSN:Cfg:=zG [44] []
theorem zHO (t:Tmp):zSN.mu t=List.contains (α:=Nat) [44] t:=(rfl)
theorem zgb:zj Tryz.prog zSN Tryz.f228=true:=by kernel_rfl
def zXL:Cfg:=zG [] []
theorem zgc:zj Tryz.prog zXL Tryz.f241=true:=by kernel_rfl
def zSO:Cfg:=zG [] []
theorem zSP (t:Tmp):zSO.mu t=List.contains (α:=Nat) [] t:=(rfl)
theorem zgd:zj Tryz.prog zSO Tryz.f249=true:=by kernel_rfl
def zOm:Cfg:=zG [] []
theorem zLg (t:Tmp):zOm.mu t=List.contains (α:=Nat) [] t:=(rfl)
theorem zcw:zj Tryz.prog zOm Tryz.f255=true:=by kernel_rfl
def zSQ:Cfg:=zG [] [(6,nr 0 10),(11,nr 0 10)]
theorem zEU (t:Tmp):zSQ.mu t=List.contains (α:=Nat) [] t:=(rfl)
theorem zge:zj Tryz.prog zSQ Tryz.f261=true:=by kernel_rfl
def zSR:Cfg:=zG [] []
theorem zLh (t:Tmp):zSR.mu t=List.contains (α:=Nat) [] t:=(rfl)
theorem zgf:zj Tryz.prog zSR Tryz.f267=true:=by kernel_rfl
def zOn:Cfg:=zG [] []
theorem zcx (t:Tmp):zOn.mu t=List.contains (α:=Nat) [] t:=(rfl)
theorem zcy:zj Tryz.prog zOn Tryz.f283=true:=by kernel_rfl
def zSS:Cfg:=zG [] []
theorem zgg (t:Tmp):zSS.mu t=List.contains (α:=Nat) [] t:=(rfl)
theorem zgh:zj Tryz.prog zSS Tryz.f289=true:=by kernel_rfl
def zST:Cfg:=zG [] []
theorem zgi (t:Tmp):zST.mu t=List.contains (α:=Nat) [] t:=(rfl)
theorem zgj:zj Tryz.prog zST Tryz.f298=true:=by kernel_rfl
def zgk:Cfg:=zG [] []
theorem mu7 (t:Tmp):zgk.mu t=List.contains (α:=Nat) [] t:=(rfl)
theorem ok7:zj Tryz.prog zgk Tryz.f7=true:=by kernel_rfl
def zZK:Cfg:=zG [] []
theorem ziq:zj Tryz.prog zZK Tryz.f19=true:=by kernel_rfl
def zcz:Cfg:=zG [24] []
theorem zjm:zj Tryz.prog zcz Tryz.f31=true:=by kernel_rfl
def zU1:Cfg:=zG [] []
theorem zjn (t:Tmp):zU1.mu t=List.contains (α:=Nat) [] t:=(rfl)
theorem zir:zj Tryz.prog zU1 Tryz.f37=true:=by kernel_rfl
def zU2:Cfg:=zG [] []
theorem zek (t:Tmp):zU2.mu t=List.contains (α:=Nat) [] t:=(rfl)
theorem zis:zj Tryz.prog zU2 Tryz.f43=true:=by kernel_rfl
def zU3:Cfg:=zG [14] []
theorem zel (t:Tmp):zU3.mu t=List.contains (α:=Nat) [14] t:=(rfl)
theorem zit:zj Tryz.prog zU3 Tryz.f49=true:=by kernel_rfl
def zZL:Cfg:=zG [] []
theorem ziu:zj Tryz.prog zZL Tryz.f58=true:=by kernel_rfl
def zc0:Cfg:=zG [] []
theorem zjo:zj Tryz.prog zc0 Tryz.f64=true:=by kernel_rfl
def zc1:Cfg:=zG [] []
theorem zjp:zj Tryz.prog zc1 Tryz.f70=true:=by kernel_rfl
def zc2:Cfg:=zG [16] [(6,nr 0 17),(11,[(0, .no),(1, .st)]++nr 2 12),(16,nr 0 20)]
theorem zjq:zj Tryz.prog zc2 Tryz.f76=true:=by kernel_rfl
def zZM:Cfg:=zG [] []
theorem zU4 (t:Tmp):zZM.mu t=List.contains (α:=Nat) [] t:=(rfl)
theorem zjr:zj Tryz.prog zZM Tryz.f82=true:=by kernel_rfl
def zU5:Cfg:=zG [] []
theorem zjs (t:Tmp):zU5.mu t=List.contains (α:=Nat) [] t:=(rfl)
theorem ziv:zj Tryz.prog zU5 Tryz.f88=true:=by kernel_rfl
def zU6:Cfg:=zG [] []
theorem zP1 (t:Tmp):zU6.mu t=List.contains (α:=Nat) [] t:=(rfl)
theorem ziw:zj Tryz.prog zU6 Tryz.f94=true:=by kernel_rfl
def zSU:Cfg:=zG [] []
theorem zc3:zj Tryz.prog zSU Tryz.f100=true:=by kernel_rfl
def zSV:Cfg:=zG [] []
theorem zc4:zj Tryz.prog zSV Tryz.f108=true:=by kernel_rfl
def zXM:Cfg:=zG [] []
theorem zgl:zj Tryz.prog zXM Tryz.f120=true:=by kernel_rfl
def zOo:Cfg:=zG [7] []
theorem zgm (t:Tmp):zOo.mu t=List.contains (α:=Nat) [7] t:=(rfl)
theorem zc5:zj Tryz.prog zOo Tryz.f126=true:=by kernel_rfl
def zXN:Cfg:=zG [] [(17,nr 0 15)]
theorem zgn:zj Tryz.prog zXN Tryz.f132=true:=by kernel_rfl
def zOp:Cfg:=zG [] []
theorem zGA (t:Tmp):zOp.mu t=List.contains (α:=Nat) [] t:=(rfl)
theorem zc6:zj Tryz.prog zOp Tryz.f138=true:=by kernel_rfl
def zOq:Cfg:=zG [] []
theorem zgo (t:Tmp):zOq.mu t=List.contains (α:=Nat) [] t:=(rfl)
theorem zc7:zj Tryz.prog zOq Tryz.f144=true:=by kernel_rfl
def zSW:Cfg:=zG [] []
theorem zc8:zj Tryz.prog zSW Tryz.f162=true:=by kernel_rfl
def zXO:Cfg:=zG [] []
theorem zgp:zj Tryz.prog zXO Tryz.f169=true:=by kernel_rfl
def zXP:Cfg:=zG [] [(4,nr 0 17),(6,nr 0 18)]
theorem zgq:zj Tryz.prog zXP Tryz.f175=true:=by kernel_rfl
def zXQ:Cfg:=zG [] [(3,nr 0 12)]
theorem zgr:zj Tryz.prog zXQ Tryz.f181=true:=by kernel_rfl
def zXR:Cfg:=zG [] []
theorem zgs:zj Tryz.prog zXR Tryz.f194=true:=by kernel_rfl
def zSX:Cfg:=zG [] []
theorem zc9:zj Tryz.prog zSX Tryz.f209=true:=by kernel_rfl
def zOr:Cfg:=zG [] []
theorem zgt (t:Tmp):zOr.mu t=List.contains (α:=Nat) [] t:=(rfl)
theorem zdA:zj Tryz.prog zOr Tryz.f223=true:=by kernel_rfl
def zSY:Cfg:=zG [] []
theorem zdB (t:Tmp):zSY.mu t=List.contains (α:=Nat) [] t:=(rfl)
theorem zgu:zj Tryz.prog zSY Tryz.f229=true:=by kernel_rfl
def zOs:Cfg:=zG [] []
theorem zdC (t:Tmp):zOs.mu t=List.contains (α:=Nat) [] t:=(rfl)
theorem zdD:zj Tryz.prog zOs Tryz.f256=true:=by kernel_rfl
def zSZ:Cfg:=zG [] []
theorem zgv (t:Tmp):zSZ.mu t=List.contains (α:=Nat) [] t:=(rfl)
theorem zgw:zj Tryz.prog zSZ Tryz.f290=true:=by kernel_rfl
def zSa:Cfg:=zG [] []
theorem zgx (t:Tmp):zSa.mu t=List.contains (α:=Nat) [] t:=(rfl)
theorem zgy:zj Tryz.prog zSa Tryz.f299=true:=by kernel_rfl
def zSb:Cfg:=zG [] []
theorem zSc (t:Tmp):zSb.mu t=List.contains (α:=Nat) [] t:=(rfl)
theorem zgz:zj Tryz.prog zSb Tryz.f323=true:=by kernel_rfl
def zem:Cfg:=zG [] [(17,[(0, .no),(1, .no),(3, .no),(4, .st),(6, .no),(7, .st),(2, .no),(9, .no),(5, .no),(8, .no)]++nr 10 5)]
theorem mu8 (t:Tmp):zem.mu t=List.contains (α:=Nat) [] t:=(rfl)
theorem ok8:zj Tryz.prog zem Tryz.f8=true:=by kernel_rfl
def zU7:Cfg:=zG [] []
theorem zen (t:Tmp):zU7.mu t=List.contains (α:=Nat) [] t:=(rfl)
theorem zix:zj Tryz.prog zU7 Tryz.f14=true:=by kernel_rfl
def zSd:Cfg:=zG [] []
theorem zU8 (t:Tmp):zSd.mu t=List.contains (α:=Nat) [] t:=(rfl)
theorem zg0:zj Tryz.prog zSd Tryz.f26=true:=by kernel_rfl
def zZN:Cfg:=zG [] [(7,nr 0 14),(14,[(1, .no),(0, .no)]++nr 2 8)]
theorem zK0 (t:Tmp):zZN.mu t=List.contains (α:=Nat) [] t:=(rfl)
theorem zjt:zj Tryz.prog zZN Tryz.f32=true:=by kernel_rfl
def zdE:Cfg:=zG [] [(6,nr 0 9)]
theorem zju:zj Tryz.prog zdE Tryz.f38=true:=by kernel_rfl
def zU9:Cfg:=zG [] []
theorem zdF (t:Tmp):zU9.mu t=List.contains (α:=Nat) [] t:=(rfl)
theorem ziy:zj Tryz.prog zU9 Tryz.f44=true:=by kernel_rfl
def zdG:Cfg:=zG [] []
theorem zjv:zj Tryz.prog zdG Tryz.f50=true:=by kernel_rfl
def zZO:Cfg:=zG [] []
theorem ziz:zj Tryz.prog zZO Tryz.f59=true:=by kernel_rfl
def zdH:Cfg:=zG [] []
theorem zjw:zj Tryz.prog zdH Tryz.f65=true:=by kernel_rfl
def zVA:Cfg:=zG [] [(1,nr 0 4++ [(5, .no),(6, .st),(7, .no),(8, .st),(10, .no),(11, .st),(12, .no),(13, .st),(15, .no),(16, .st),(17, .no),(18, .st),(4, .no),(9, .no),(14, .no)]++nr 19 4)]
theorem zi0 (t:Tmp):zVA.mu t=List.contains (α:=Nat) [] t:=(rfl)
theorem zi1:zj Tryz.prog zVA Tryz.f71=true:=by kernel_rfl
def zdI:Cfg:=zG [] []
theorem zjx:zj Tryz.prog zdI Tryz.f77=true:=by kernel_rfl
def zVB:Cfg:=zG [] []
theorem zjy (t:Tmp):zVB.mu t=List.contains (α:=Nat) [] t:=(rfl)
theorem zi2:zj Tryz.prog zVB Tryz.f83=true:=by kernel_rfl
def zVC:Cfg:=zG [] [(6,nr 0 9)]
theorem zXS (t:Tmp):zVC.mu t=List.contains (α:=Nat) [] t:=(rfl)
theorem zi3:zj Tryz.prog zVC Tryz.f89=true:=by kernel_rfl
def zVD:Cfg:=zG [] [(14,nr 0 13)]
theorem zD2 (t:Tmp):zVD.mu t=List.contains (α:=Nat) [] t:=(rfl)
theorem zi4:zj Tryz.prog zVD Tryz.f95=true:=by kernel_rfl
def zOt:Cfg:=zG [] []
theorem zg1 (t:Tmp):zOt.mu t=List.contains (α:=Nat) [] t:=(rfl)
theorem zdJ:zj Tryz.prog zOt Tryz.f101=true:=by kernel_rfl
def zSe:Cfg:=zG [] []
theorem zdK:zj Tryz.prog zSe Tryz.f109=true:=by kernel_rfl
def zXT:Cfg:=zG [] [(3,[(0, .no),(1, .no),(2, .st),(4, .no),(5, .no),(6, .st),(9, .no),(10, .no),(11, .st),(14, .no),(15, .no),(16, .st),(3, .st),(7, .st),(8, .st),(12, .st),(13, .st),(17, .st)]++nr 18 3),(6,nr 0 7),(7,[(6, .no)]++nr 0 6++nr 7 6)]
theorem zg2:zj Tryz.prog zXT Tryz.f115=true:=by kernel_rfl
def zSf:Cfg:=zG [] []
theorem zdL:zj Tryz.prog zSf Tryz.f121=true:=by kernel_rfl
def zXU:Cfg:=zG [] []
theorem zg3:zj Tryz.prog zXU Tryz.f127=true:=by kernel_rfl
def zXV:Cfg:=zG [] []
theorem zg4:zj Tryz.prog zXV Tryz.f133=true:=by kernel_rfl
def zOu:Cfg:=zG [] []
theorem zLi (t:Tmp):zOu.mu t=List.contains (α:=Nat) [] t:=(rfl)
theorem zdM:zj Tryz.prog zOu Tryz.f139=true:=by kernel_rfl
def zSg:Cfg:=zG [] [(4,nr 0 10)]
theorem zNG (t:Tmp):zSg.mu t=List.contains (α:=Nat) [] t:=(rfl)
theorem zg5:zj Tryz.prog zSg Tryz.f145=true:=by kernel_rfl
def zSh:Cfg:=zG [] []
theorem zdN:zj Tryz.prog zSh Tryz.f163=true:=by kernel_rfl
def zXW:Cfg:=zG [] []
theorem zg6:zj Tryz.prog zXW Tryz.f170=true:=by kernel_rfl
def zXX:Cfg:=zG [] [(4,nr 0 5)]
theorem zg7:zj Tryz.prog zXX Tryz.f182=true:=by kernel_rfl
def zOv:Cfg:=zG [] [(20,nr 0 12)]
theorem zFG (t:Tmp):zOv.mu t=List.contains (α:=Nat) [] t:=(rfl)
theorem zdO:zj Tryz.prog zOv Tryz.f195=true:=by kernel_rfl
def zSi:Cfg:=zG [] []
theorem zdP:zj Tryz.prog zSi Tryz.f210=true:=by kernel_rfl
def zSj:Cfg:=zG [] [(3,[(2, .no),(0, .no),(1, .st)]++nr 3 6)]
theorem zSk (t:Tmp):zSj.mu t=List.contains (α:=Nat) [] t:=(rfl)
theorem zg8:zj Tryz.prog zSj Tryz.f217=true:=by kernel_rfl
def zOw:Cfg:=zG [] []
theorem zSl (t:Tmp):zOw.mu t=List.contains (α:=Nat) [] t:=(rfl)
theorem zdQ:zj Tryz.prog zOw Tryz.f224=true:=by kernel_rfl
def zSm:Cfg:=zG [24] []
theorem zGB (t:Tmp):zSm.mu t=List.contains (α:=Nat) [24] t:=(rfl)
theorem zg9:zj Tryz.prog zSm Tryz.f230=true:=by kernel_rfl
def zOx:Cfg:=zG [] []
theorem zhA (t:Tmp):zOx.mu t=List.contains (α:=Nat) [] t:=(rfl)
theorem zdR:zj Tryz.prog zOx Tryz.f251=true:=by kernel_rfl
def zSn:Cfg:=zG [] []
theorem zhB (t:Tmp):zSn.mu t=List.contains (α:=Nat) [] t:=(rfl)
theorem zhC:zj Tryz.prog zSn Tryz.f263=true:=by kernel_rfl
def zSo:Cfg:=zG [] [(10,nr 0 14),(15,nr 0 20)]
theorem zHP (t:Tmp):zSo.mu t=List.contains (α:=Nat) [] t:=(rfl)
theorem zhD:zj Tryz.prog zSo Tryz.f279=true:=by kernel_rfl
def zSp:Cfg:=zG [] [(4,nr 0 6)]
theorem zNH (t:Tmp):zSp.mu t=List.contains (α:=Nat) [] t:=(rfl)
theorem zhE:zj Tryz.prog zSp Tryz.f324=true:=by kernel_rfl
set_option maxRecDepth 100000
def tab:List (Nat× (Func×Cfg)):=[(6,(Tryz.f6,zig)),(8,(Tryz.f8,zem)),(9,(Tryz.f9,ziJ)),(10,(Tryz.f10,zRr)),(14,(Tryz.f14,zU7)),(19,(Tryz.f19,zZK)),(21,(Tryz.f21,zUh)),(22,(Tryz.f22,zUl)),(23,(Tryz.f23,zUu)),(24,(Tryz.f24,zco)),(26,(Tryz.f26,zSd)),(28,(Tryz.f28,zUm)),(29,(Tryz.f29,zcd)),(30,(Tryz.f30,zcp)),(31,(Tryz.f31,zcz)),(35,(Tryz.f35,zUv)),(36,(Tryz.f36,zSD)),(37,(Tryz.f37,zU1)),(38,(Tryz.f38,zdE)),(39,(Tryz.f39,zUj)),(40,(Tryz.f40,zRs)),(42,(Tryz.f42,zUz)),(43,(Tryz.f43,zU2)),(44,(Tryz.f44,zU9)),(45,(Tryz.f45,zY3)),(46,(Tryz.f46,zUn)),(47,(Tryz.f47,zPz)),(48,(Tryz.f48,zZG)),(49,(Tryz.f49,zU3)),(50,(Tryz.f50,zdG)),(51,(Tryz.f51,zRf)),(55,(Tryz.f55,zY8)),(56,(Tryz.f56,zZC)),(57,(Tryz.f57,zZH)),(58,(Tryz.f58,zZL)),(59,(Tryz.f59,zZO)),(60,(Tryz.f60,zY4)),(62,(Tryz.f62,zZD)),(63,(Tryz.f63,zZI)),(64,(Tryz.f64,zc0)),(65,(Tryz.f65,zdH)),(67,(Tryz.f67,zUo)),(68,(Tryz.f68,zce)),(70,(Tryz.f70,zc1)),(71,(Tryz.f71,zVA)),(72,(Tryz.f72,zcF)),(74,(Tryz.f74,zcf)),(75,(Tryz.f75,zcq)),(76,(Tryz.f76,zc2)),(77,(Tryz.f77,zdI)),(83,(Tryz.f83,zVB)),(84,(Tryz.f84,zcG)),(85,(Tryz.f85,zcV)),(86,(Tryz.f86,zUw)),(87,(Tryz.f87,zU0)),(88,(Tryz.f88,zU5)),(89,(Tryz.f89,zVC)),(90,(Tryz.f90,zUk)),(91,(Tryz.f91,zUp)),(92,(Tryz.f92,zR1)),(93,(Tryz.f93,zSF)),(94,(Tryz.f94,zU6)),(95,(Tryz.f95,zVD)),(97,(Tryz.f97,zUq)),(99,(Tryz.f99,zSG)),(100,(Tryz.f100,zSU)),(101,(Tryz.f101,zOt)),(102,(Tryz.f102,zWu)),(103,(Tryz.f103,zW1)),(106,(Tryz.f106,zXB)),(107,(Tryz.f107,zSH)),(108,(Tryz.f108,zSV)),(109,(Tryz.f109,zSe)),(110,(Tryz.f110,zOV)),(111,(Tryz.f111,zW2)),(112,(Tryz.f112,zXC)),(113,(Tryz.f113,zXH)),(115,(Tryz.f115,zXT)),(117,(Tryz.f117,zW3)),(118,(Tryz.f118,zOd)),(119,(Tryz.f119,zXI)),(120,(Tryz.f120,zXM)),(121,(Tryz.f121,zSf)),(122,(Tryz.f122,zRg)),(123,(Tryz.f123,zW4)),(124,(Tryz.f124,zXD)),(125,(Tryz.f125,zOj)),(126,(Tryz.f126,zOo)),(127,(Tryz.f127,zXU)),(128,(Tryz.f128,zWv)),(129,(Tryz.f129,zW5)),(132,(Tryz.f132,zXN)),(133,(Tryz.f133,zXV)),(134,(Tryz.f134,zOW)),(135,(Tryz.f135,zOZ)),(136,(Tryz.f136,zOf)),(137,(Tryz.f137,zOk)),(138,(Tryz.f138,zOp)),(139,(Tryz.f139,zOu)),(140,(Tryz.f140,zOX)),(141,(Tryz.f141,zOa)),(144,(Tryz.f144,zOq)),(146,(Tryz.f146,zOY)),(147,(Tryz.f147,zRt)),(149,(Tryz.f149,zXE)),(161,(Tryz.f161,zSL)),(162,(Tryz.f162,zSW)),(163,(Tryz.f163,zSh)),(164,(Tryz.f164,zRh)),(166,(Tryz.f166,zW6)),(167,(Tryz.f167,zXF)),(168,(Tryz.f168,zXJ)),(169,(Tryz.f169,zXO)),(170,(Tryz.f170,zXW)),(171,(Tryz.f171,zWw)),(173,(Tryz.f173,zXG)),(175,(Tryz.f175,zXP)),(177,(Tryz.f177,zRi)),(178,(Tryz.f178,zW7)),(180,(Tryz.f180,zOl)),(181,(Tryz.f181,zXQ)),(182,(Tryz.f182,zXX)),(184,(Tryz.f184,zW8)),(190,(Tryz.f190,zW9)),(194,(Tryz.f194,zXR)),(195,(Tryz.f195,zOv)),(196,(Tryz.f196,zLc)),(197,(Tryz.f197,zI1)),(199,(Tryz.f199,zXK)),(209,(Tryz.f209,zSX)),(210,(Tryz.f210,zSi)),(211,(Tryz.f211,zWx)),(223,(Tryz.f223,zOr)),(224,(Tryz.f224,zOw)),(225,(Tryz.f225,zLd)),(226,(Tryz.f226,zOb)),(227,(Tryz.f227,zOg)),(240,(Tryz.f240,zR6)),(241,(Tryz.f241,zXL)),(251,(Tryz.f251,zOx)),(252,(Tryz.f252,zLe)),(253,(Tryz.f253,zOc)),(254,(Tryz.f254,zOh)),(255,(Tryz.f255,zOm)),(256,(Tryz.f256,zOs)),(283,(Tryz.f283,zOn))]
theorem qA:zFA Tryz.prog tab:=⟨⟨Tryz.func6,ok6⟩,⟨Tryz.func8,ok8⟩,⟨Tryz.func9,ok9⟩,⟨Tryz.func10,ziP⟩,⟨Tryz.func14,zix⟩,⟨Tryz.func19,ziq⟩,⟨Tryz.func21,ziK⟩,⟨Tryz.func22,ziQ⟩,⟨Tryz.func23,zia⟩,⟨Tryz.func24,zjh⟩,⟨Tryz.func26,zg0⟩,⟨Tryz.func28,ziR⟩,⟨Tryz.func29,zjb⟩,⟨Tryz.func30,zji⟩,⟨Tryz.func31,zjm⟩,⟨Tryz.func35,zib⟩,⟨Tryz.func36,zgQ⟩,⟨Tryz.func37,zir⟩,⟨Tryz.func38,zju⟩,⟨Tryz.func39,ziL⟩,⟨Tryz.func40,zfp⟩,⟨Tryz.func42,zii⟩,⟨Tryz.func43,zis⟩,⟨Tryz.func44,ziy⟩,⟨Tryz.func45,ziM⟩,⟨Tryz.func46,ziT⟩,⟨Tryz.func47,zej⟩,⟨Tryz.func48,zij⟩,⟨Tryz.func49,zit⟩,⟨Tryz.func50,zjv⟩,⟨Tryz.func51,zfa⟩,⟨Tryz.func55,ziU⟩,⟨Tryz.func56,zic⟩,⟨Tryz.func57,zik⟩,⟨Tryz.func58,ziu⟩,⟨Tryz.func59,ziz⟩,⟨Tryz.func60,ziN⟩,⟨Tryz.func62,zid⟩,⟨Tryz.func63,zil⟩,⟨Tryz.func64,zjo⟩,⟨Tryz.func65,zjw⟩,⟨Tryz.func67,ziV⟩,⟨Tryz.func68,zjc⟩,⟨Tryz.func70,zjp⟩,⟨Tryz.func71,zi1⟩,⟨Tryz.func72,zjP⟩,⟨Tryz.func74,zjd⟩,⟨Tryz.func75,zjj⟩,⟨Tryz.func76,zjq⟩,⟨Tryz.func77,zjx⟩,⟨Tryz.func83,zi2⟩,⟨Tryz.func84,zjR⟩,⟨Tryz.func85,zjZ⟩,⟨Tryz.func86,zie⟩,⟨Tryz.func87,zim⟩,⟨Tryz.func88,ziv⟩,⟨Tryz.func89,zi3⟩,⟨Tryz.func90,ziO⟩,⟨Tryz.func91,ziY⟩,⟨Tryz.func92,zif⟩,⟨Tryz.func93,zgR⟩,⟨Tryz.func94,ziw⟩,⟨Tryz.func95,zi4⟩,⟨Tryz.func97,ziZ⟩,⟨Tryz.func99,zgS⟩,⟨Tryz.func100,zc3⟩,⟨Tryz.func101,zdJ⟩,⟨Tryz.func102,zfb⟩,⟨Tryz.func103,zfr⟩,⟨Tryz.func106,zf8⟩,⟨Tryz.func107,zcr⟩,⟨Tryz.func108,zc4⟩,⟨Tryz.func109,zdK⟩,⟨Tryz.func110,zcH⟩,⟨Tryz.func111,zfs⟩,⟨Tryz.func112,zf9⟩,⟨Tryz.func113,zgT⟩,⟨Tryz.func115,zg2⟩,⟨Tryz.func117,zft⟩,⟨Tryz.func118,zcg⟩,⟨Tryz.func119,zgU⟩,⟨Tryz.func120,zgl⟩,⟨Tryz.func121,zdL⟩,⟨Tryz.func122,zcI⟩,⟨Tryz.func123,zfu⟩,⟨Tryz.func124,zgB⟩,⟨Tryz.func125,zcs⟩,⟨Tryz.func126,zc5⟩,⟨Tryz.func127,zg3⟩,⟨Tryz.func128,zfd⟩,⟨Tryz.func129,zfv⟩,⟨Tryz.func132,zgn⟩,⟨Tryz.func133,zg4⟩,⟨Tryz.func134,zcJ⟩,⟨Tryz.func135,zcW⟩,⟨Tryz.func136,zci⟩,⟨Tryz.func137,zct⟩,⟨Tryz.func138,zc6⟩,⟨Tryz.func139,zdM⟩,⟨Tryz.func140,zcL⟩,⟨Tryz.func141,zcY⟩,⟨Tryz.func144,zc7⟩,⟨Tryz.func146,zcM⟩,⟨Tryz.func147,zcZ⟩,⟨Tryz.func149,zgE⟩,⟨Tryz.func161,zcu⟩,⟨Tryz.func162,zc8⟩,⟨Tryz.func163,zdN⟩,⟨Tryz.func164,zcN⟩,⟨Tryz.func166,zfw⟩,⟨Tryz.func167,zgF⟩,⟨Tryz.func168,zgZ⟩,⟨Tryz.func169,zgp⟩,⟨Tryz.func170,zg6⟩,⟨Tryz.func171,zfe⟩,⟨Tryz.func173,zgG⟩,⟨Tryz.func175,zgq⟩,⟨Tryz.func177,zcO⟩,⟨Tryz.func178,zfx⟩,⟨Tryz.func180,zcv⟩,⟨Tryz.func181,zgr⟩,⟨Tryz.func182,zg7⟩,⟨Tryz.func184,zfy⟩,⟨Tryz.func190,zfz⟩,⟨Tryz.func194,zgs⟩,⟨Tryz.func195,zdO⟩,⟨Tryz.func196,zcP⟩,⟨Tryz.func197,zUr⟩,⟨Tryz.func199,zga⟩,⟨Tryz.func209,zc9⟩,⟨Tryz.func210,zdP⟩,⟨Tryz.func211,zfg⟩,⟨Tryz.func223,zdA⟩,⟨Tryz.func224,zdQ⟩,⟨Tryz.func225,zcQ⟩,⟨Tryz.func226,zca⟩,⟨Tryz.func227,zck⟩,⟨Tryz.func240,zcl⟩,⟨Tryz.func241,zgc⟩,⟨Tryz.func251,zdR⟩,⟨Tryz.func252,zcS⟩,⟨Tryz.func253,zcb⟩,⟨Tryz.func254,zcm⟩,⟨Tryz.func255,zcw⟩,⟨Tryz.func256,zdD⟩,⟨Tryz.func283,zcy⟩,trivial⟩
theorem mix:Tryz.prog.follows .mixedOrders=true:=by kernel_rfl
end Go.V
end
