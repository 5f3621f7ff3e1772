/- A list of closed calls of this program and their results, part 1. No condition. -/
import Derived.Test.YtkenagjlanhnmaaGreatDoorW18
set_option linter.all false
set_option maxHeartbeats 8000000
noncomputable section
namespace Go.V
open Go.Proofs.Tryz
def vB:D:=.int .i64 (0)
def vK:D:=.sl 1 [[(.str [98])]] .no
def vL:D:=.int .i64 (1)
def vM:D:=.nilsl
def vO:D:=.int .i64 (2)
def vR:D:=.bool true
def vV:D:=.int .i64 (4)
def vW:D:=.int .i64 (3)
def vZ:D:=.str [120,47,111,117,116]
def vg:D:=.str []
def vo:D:=.bool false
def vC:List D:=[vO,vg,vZ,vB,vL,vB,vo,vB,vg,vg,vM,vM]
def vD:List D:=[vW,vg,vZ,vB,vB,vB,vo,vB,vg,vg,vM,vK]
def vG:List D:=[vW,vg,(.str [121,47,111]),vB,vB,vB,vo,vB,vg,vg,vM,vK]
def vJ:List D:=[(.agg [vB,vM]),vo,vB]
def vq:D:=.sl 1 [] .no
def vt:D:=.agg [vV,(.sl 1 [[vO],[vW]] .no)]
def vu:D:=.sl 1 [[vL],[vO]] .no
def vz:D:=.sl 1 [[vB],[vL],[vO]] .no
def v8:D:=.str [97]
def vH:D:=.sl 1 [[(.sl 2 [[v8,vg]] .no)]] .no
def vP:D:=.sl 1 [[v8]] .no
def vA:D:=.agg [(.sl 4 [[v8,v8,vL,vg],[(.str [98]),(.str [98]),vL,vg]] .no),vM,(.sl 5 [[v8,vL,vB,vV,vP]] .no),vM]
def vT:D:=.agg [vH,(.sl 1 [[vg]] .no)]
def vn:D:=.agg [vH,vP]
def vw:D:=.agg [vH,vK]
def v9:D:=.sl 12 [vG] .no
def vAA:D:=.int .i64 (-1)
def vS:D:=.sl 4 [[vL,vu,vB,vM],[vAA,vM,vV,(.sl 1 [[vO],[vW]] .no)],[vAA,vM,vL,vz]] .no
def vI:List D:=[(.sl 1 [[vB],[vO],[vW],[vV]] .no),vS,(.sl 2 [[vM,vK],[vH,vK],[vH,vM],[vH,vP]] .no)]
def vAB:D:=.str [120,47,102]
def vE:List D:=[vL,vAB,vg,vB,vB,vB,vo,vB,v8,vg,vM,vM]
def vF:List D:=[vB,vAB,vZ,vB,vB,vB,vo,vB,vg,vg,vM,vM]
def vQ:D:=.sl 12 [vE,vG,vF,vC,vD] .no
def vU:D:=.sl 12 [vE,vF,vC,vD] .no
def vX:D:=.sl 12 [vF,vC,vD] .no
def vY:D:=.sl 12 [vE,vC,vD] .no
def vd:D:=.sl 12 [vE,vG,vF,vC] .no
def ve:D:=.sl 12 [vE,vG,vC,vD] .no
def vh:D:=.sl 12 [vE,vF,vC] .no
def vj:D:=.sl 12 [vE,vF,vD] .no
def vp:D:=.sl 12 [vE,vG,vF,vD] .no
def vAC:D:=.sl 1 [[vH]] .no
def vN:List D:=[vAC,(.sl 1 [[vZ]] .no),vB]
def vAD:D:=.sl 1 [[vB],[vO],[vW]] .no
open Go.Proofs
def Rh:List (List D)->Bool
 | []=>true
 |x::xs=>(match x with
  | [.int k _]=>match k with
   |.i64=>true
   |_=>false
  |_=>false)&&Rh xs
def aw(args:List D)(hp:Nat->Option Obj):Option D:=
 match args with
 | [x,y]=>match y with
  |.int .i64 i=>match x with
   |.sl sz xs _=>if Nat.beq sz 1&&Rh xs&&decide (0<=i)&&Nat.blt i.toNat xs.length&&Nat.ble xs.length 1048576 then some (.sl 1 (xs.eraseIdx i.toNat) .no)else none
   |.rs id sz off n=>match hp id with
    |some (.row cs)=>if Nat.beq sz 1&&Nat.beq off 0&&Rh (wK 1 n cs)&&Nat.beq cs.length n&&decide (0<=i)&&Nat.blt i.toNat n&&Nat.ble n 1048576 then some (.sl 1 ((wK 1 n cs).eraseIdx i.toNat) .no)else none
    |_=>none
   |_=>none
  |_=>none
 |_=>none
def zH8(g:FuncId)(args:List D)(hp:Nat->Option Obj):He:=
 match Nat.beq g 158 with
 |true=>Uy (YO args)
 |false=>
  match Nat.beq g 159 with
  |true=>Uy (bX args)
  |false=>
   match Nat.beq g 213 with
   |true=>Uy (bX args)
   |false=>
    match Nat.beq g 214 with
    |true=>Uy (Uf args)
    |false=>
     match Nat.beq g 35 with
     |true=>Uy (aw args hp)
     |false=>
      none
def zG3(g:FuncId):Bool:=List.contains (α:=Nat) [26,149,87,50,90,165,166,164,97,69,148,364,366,245,208,246,33,123,74,35,34,13,49,18,21,11,47,14,32,132,93,94] g
def m0:sJ:=[]
abbrev rC:=Nat× (List D×D)
def rI(m:sJ)(e:rC):Prop:=(Fq prog tab zG3 (zEb zH8 m) 1000 60 [] (.fn (.func e.1) [] []) e.2.1 HT.emp).map (λr=>gp r.1 r.2.heap)=some e.2.2
def rT{m:sJ}{e:rC}(h:(Fq prog tab zG3 (zEb zH8 m) 1000 60 [] (.fn (.func e.1) [] []) e.2.1 HT.emp).map (λr=>gp r.1 r.2.heap)=some e.2.2:=by kernel_rfl):rI m e:=h
def en1:rC:=(69,([vA],.int .i64 (0)))
def m1:sJ:=en1::m0
def en2:rC:=(26,([(.str [108,105,99,101,110,115,101,32,97,32,97,32,49,32,48,10,108,105,99,101,110,115,101,32,98,32,98,32,49,32,48,10,99,108,97,117,115,101,32,97,32,98,105,110,97,114,121,32,105,110,32,115,104,97,114,101,32,97,10])],.tuple [vA,vB,vB]))
def m2:sJ:=en2::m1
def en3:rC:=(245,([vAB],.int .i64 (0)))
def m3:sJ:=en3::m2
def en4:rC:=(245,([(.str [121,47,111])],.int .i64 (0)))
def m4:sJ:=en4::m3
def en5:rC:=(245,([vZ],.int .i64 (0)))
def m5:sJ:=en5::m4
def en6:rC:=(87,([vA,vQ],.tuple vN))
def m6:sJ:=en6::m5
def en7:rC:=(19,([vA,vQ],.tuple [vO,vB]))
def m7:sJ:=en7::m6
def en8:rC:=(90,([vA,vQ,vT],.tuple vJ))
def m8:sJ:=en8::m7
def en9:rC:=(90,([vA,vQ,vn],.tuple [(.agg [vV,(.sl 1 [[vW],[vV]] .no)]),vR,vB]))
def m9:sJ:=en9::m8
def zMY:rC:=(90,([vA,vQ,vw],.tuple [(.agg [vL,vAD]),vR,vB]))
def m10:sJ:=zMY::m9
def zMZ:rC:=(14,([vA,vQ],.tuple [(.agg [vo,vM,vM,(.sl 4 [[vL,vu,vB,vM],[vAA,vM,vV,(.sl 1 [[vW],[vV]] .no)],[vAA,vM,vL,vAD]] .no)]),vB]))
def m11:sJ:=zMZ::m10
def zMa:rC:=(87,([vA,vd],.tuple vN))
def m12:sJ:=zMa::m11
def zMb:rC:=(19,([vA,vd],.tuple [vO,vB]))
def m13:sJ:=zMb::m12
def zMc:rC:=(90,([vA,vd,vT],.tuple vJ))
def m14:sJ:=zMc::m13
def zMd:rC:=(90,([vA,vd,vn],.tuple vJ))
def m15:sJ:=zMd::m14
def zMe:rC:=(14,([vA,vd],.tuple [(.agg [vR,vH,vP,vM]),vB]))
def m16:sJ:=zMe::m15
def zMf:rC:=(87,([vA,vp],.tuple [vAC,vM,vB]))
def m17:sJ:=zMf::m16
def zMg:rC:=(19,([vA,vp],.tuple [vL,vB]))
def m18:sJ:=zMg::m17
def zMh:rC:=(90,([vA,vp,(.agg [vH,vq])],.tuple vJ))
def m19:sJ:=zMh::m18
def zMi:rC:=(14,([vA,vp],.tuple [(.agg [vR,vH,vM,vM]),vB]))
def m20:sJ:=zMi::m19
def zMj:rC:=(87,([vA,ve],.tuple vN))
def m21:sJ:=zMj::m20
def zMk:rC:=(19,([vA,ve],.tuple [vO,vB]))
def m22:sJ:=zMk::m21
def zMl:rC:=(90,([vA,ve,vT],.tuple vJ))
def m23:sJ:=zMl::m22
def zMm:rC:=(90,([vA,ve,vn],.tuple [vt,vR,vB]))
def m24:sJ:=zMm::m23
def zMn:rC:=(90,([vA,ve,vw],.tuple vJ))
def m25:sJ:=zMn::m24
def zMo:rC:=(14,([vA,ve],.tuple [(.agg [vR,vH,vK,vM]),vB]))
def m26:sJ:=zMo::m25
def zMp:rC:=(87,([vA,vU],.tuple vN))
def m27:sJ:=zMp::m26
def zMq:rC:=(19,([vA,vU],.tuple [vO,vB]))
def m28:sJ:=zMq::m27
def zMr:rC:=(90,([vA,vU,vT],.tuple vJ))
def m29:sJ:=zMr::m28
def zMs:rC:=(90,([vA,vU,vn],.tuple [vt,vR,vB]))
def m30:sJ:=zMs::m29
def zMt:rC:=(90,([vA,vU,vw],.tuple [(.agg [vL,vz]),vR,vB]))
def m31:sJ:=zMt::m30
def zMu:rC:=(14,([vA,vU],.tuple [(.agg [vo,vM,vM,vS]),vB]))
def m32:sJ:=zMu::m31
def zMv:rC:=(87,([vA,vX],.tuple [vM,(.sl 1 [[vZ]] .no),vB]))
def m33:sJ:=zMv::m32
def zMw:rC:=(19,([vA,vX],.tuple [vO,vB]))
def m34:sJ:=zMw::m33
def zMx:rC:=(90,([vA,vX,(.agg [vq,(.sl 1 [[vg]] .no)])],.tuple vJ))
def m35:sJ:=zMx::m34
def zMy:rC:=(90,([vA,vX,(.agg [vq,vP])],.tuple [(.agg [vV,vu]),vR,vB]))
def m36:sJ:=zMy::m35
def zMz:rC:=(90,([vA,vX,(.agg [vq,vK])],.tuple vJ))
def m37:sJ:=zMz::m36
def zM0:rC:=(14,([vA,vX],.tuple [(.agg [vR,vM,vK,vM]),vB]))
def m38:sJ:=zM0::m37
def zM1:rC:=(87,([vA,vY],.tuple vN))
def m39:sJ:=zM1::m38
def zM2:rC:=(19,([vA,vY],.tuple [vO,vB]))
def m40:sJ:=zM2::m39
def zM3:rC:=(90,([vA,vY,vT],.tuple vJ))
def m41:sJ:=zM3::m40
def zM4:rC:=(90,([vA,vY,vn],.tuple [(.agg [vV,vu]),vR,vB]))
def m42:sJ:=zM4::m41
def zM5:rC:=(90,([vA,vY,vw],.tuple vJ))
def m43:sJ:=zM5::m42
def zM6:rC:=(14,([vA,vY],.tuple [(.agg [vR,vH,vK,vM]),vB]))
def m44:sJ:=zM6::m43
def zM7:rC:=(87,([vA,vj],.tuple [vAC,vM,vB]))
def m45:sJ:=zM7::m44
def zM8:rC:=(19,([vA,vj],.tuple [vL,vB]))
def m46:sJ:=zM8::m45
def zM9:rC:=(90,([vA,vj,(.agg [vH,vq])],.tuple vJ))
def m47:sJ:=zM9::m46
def zNA:rC:=(14,([vA,vj],.tuple [(.agg [vR,vH,vM,vM]),vB]))
def m48:sJ:=zNA::m47
def zNB:rC:=(87,([vA,vh],.tuple vN))
def m49:sJ:=zNB::m48
def zNC:rC:=(19,([vA,vh],.tuple [vO,vB]))
def m50:sJ:=zNC::m49
def zND:rC:=(90,([vA,vh,vT],.tuple vJ))
def m51:sJ:=zND::m50
def zNE:rC:=(90,([vA,vh,vn],.tuple vJ))
def m52:sJ:=zNE::m51
def zNF:rC:=(14,([vA,vh],.tuple [(.agg [vR,vH,vP,vM]),vB]))
def m53:sJ:=zNF::m52
def zNG:rC:=(18,([vA,vQ],.tuple [(.agg vI),vB]))
def m54:sJ:=zNG::m53
def zNH:rC:=(18,([vA,vd],.tuple [(.agg [vM,vM,vM]),(.int .i64 (14))]))
def m55:sJ:=zNH::m54
def zNI:rC:=(87,([vA,v9],.tuple [vM,vM,vB]))
def m56:sJ:=zNI::m55
def zNJ:rC:=(19,([vA,v9],.tuple [vL,vB]))
def m57:sJ:=zNJ::m56
def zNK:rC:=(90,([vA,v9,(.agg [vq,vq])],.tuple vJ))
def m58:sJ:=zNK::m57
def zNL:rC:=(14,([vA,v9],.tuple [(.agg [vR,vM,vM,vM]),vB]))
def m59:sJ:=zNL::m58
def zNM:rC:=(21,([vA,vQ],.tuple [(.sl 3 [vI] .no),vB]))
def m60:sJ:=zNM::m59
def zNN:rC:=(123,([vA,vU,vn,vt],.int .i64 (0)))
def m61:sJ:=zNN::m60
def zNO:rC:=(123,([vA,vU,vw,(.agg [vL,vz])],.int .i64 (0)))
def m62:sJ:=zNO::m61
def zNP:rC:=(33,([vA,vX,(.agg [vM,vK])],.tuple [vR,vB]))
def m63:sJ:=zNP::m62
def zNQ:rC:=(33,([vA,vY,vw],.tuple [vR,vB]))
def m64:sJ:=zNQ::m63
def zNR:rC:=(33,([vA,vj,(.agg [vH,vM])],.tuple [vR,vB]))
def m65:sJ:=zNR::m64
def zNS:rC:=(33,([vA,vh,vn],.tuple [vR,vB]))
def m66:sJ:=zNS::m65
def zNT:rC:=(11,([vA,vQ,(.agg vI)],.int .i64 (0)))
def m67:sJ:=zNT::m66
def zNU:rC:=(87,([vA,vM],.tuple [vM,vM,vB]))
def m68:sJ:=zNU::m67
def zNV:rC:=(19,([vA,vM],.tuple [vL,vB]))
def m69:sJ:=zNV::m68
def zNW:rC:=(11,([vA,vQ,(.agg [vM,vM,vM])],.int .i64 (18)))
def m70:sJ:=zNW::m69
def zOM:rC:=(8,([],.bool true))
end Go.V
namespace Go.Proofs
open Go.Shelf
def Tryz.laysNm223_ren:Go.Shelf.Ren:=⟨fun|23=>78|n=>n,fun|22=>30|3=>3|4=>4|0=>0|n=>n,fun|n=>n⟩
def Tryz.laysNm223:Go.Proofs.Lays2.n23 Tryz.prog Tryz.laysNm223_ren:=by constructor<;>intros<;>exact lay_k
open Go.RowKit Go.Lib Go.Sort in
def Tryz.slices_Delete_int(a off cap i j:Nat)(zs:List Int)(w:World)(d:Holds (Value.int .i64) w a off zs.toArray)(b:zs.length<=cap)(g:cap<=9223372036854775807)(c:i<=j)(f:j<=zs.length):
  Calls Tryz.prog 78 #[.slice (some ⟨a,off,none⟩) zs.length cap,.int .i64 i,.int .i64 j] w λe h=>e=.returned (.slice (some ⟨a,off,none⟩) (zs.length- (j-i)) cap)/\∃q,h=putRow (Value.int .i64) (Sort.ahead w q) a off (zs.take i++zs.drop j++List.replicate (j-i) 0).toArray:=Any.slices_Delete_int Tryz.laysNm223 a off cap i j zs w d b g c f
end Go.Proofs
namespace Go.V
open Go.Proofs.Tryz
open Go.Proofs
set_option maxRecDepth 100000
variable{d:D}{h:Heap}{M:Imm}{ρ:Ren}{v:Value}{i id:Nat}{α β:Type}{args cs:List D}{o:Oper}{P:Program}{f:FuncId}{Q:D->Heap->Prop}
def GH{cells:List D}(f:TR 1 d h=some cells)(h0:0<cells.length)(g:cells.length<=1048576)(e:∀c,kW prog .eql 30 c d .nilsl=some (.bool false)):
  zD prog 79 [d] h λr h'=>r=.rs h.next 1 0 cells.length/\h'=h.new h.next (.row cells):=by
 refine zj zLT ?_;simp only[f79,zA];simp only[go_sem,Nat.reduceEqDiff,↓reduceIte,e,uc,Nat.reduceBEq,wT wA pc sG rfl rfl (by omega:0<1)];have b:(cells.length)*8<=lim:=jL;have a:cells.length<=lim:=jL
 have:qS prog true h.next 30 (.sl 1 [] .full) d h=some (.rs h.next 1 0 cells.length,h.new h.next (.row cells)):=by
  simp only[qS,wA,V5,sG,qF,f,Nat.div_one,tB,fO,qD,yH];rw[ip (by simp[b,a]),iq ow];simp[Vg underlying3]
 simp only[this,go_sem]
theorem cI:∀{xs:List (List D)},Rh xs=true->∃ks:List Int,xs=ks.map λn=>[.int .i64 n]
 | [],_=>⟨[],rfl⟩
 |x::xs,h=>by
  simp only[Rh,zF]at h;obtain⟨ks,rfl⟩:=cI h.2;have h1:=h.1;split at h1
  .rename_i k n
   split at h1
   .exact⟨n::ks,rfl⟩
   .cases h1
  .cases h1
def Nu{n:Int}(h:rel M ρ (.int .i64 n) v):v=.int .i64 n/\fits .i64 n:=by
 simp only[rel]at h;exact⟨h.1,h.2⟩
def GI{ks:List Int}(p:i<ks.length)(q:ks.length<=1048576)(b:h.at' id=some (.row (ks.map λn=>.int .i64 n))):
  zD prog 78 [.rs id 1 0 ks.length,.int .i64 i,.int .i64 ((i+1:Nat):Int)] h λr h'=>r=.rs id 1 0 (ks.length-1)/\h'=h.set id (.row ((ks.take i++ks.drop (i+1)++ [0]).map λn=>.int .i64 n)):=by
 have:=zD.of_row (P:=prog) (f:=78) (α:=Int) (enc:=Value.int .i64) (dd:=λn=>.int .i64 n) (λM ρ x v hr=>zEX hr) (λ_=>rfl) (xs:=ks) (ys:=ks.take i++ks.drop (i+1)++ [0]) (m:=ks.length-1) (rest:=[.int .i64 i,.int .i64 ((i+1:Nat):Int)]) (id:=id) (pre:=[]) (post:=[]) (h:=h) kr (by simpa using b) ow jO ow
  (λy a=>by
   simp only[qB,zo]at a;rcases a with(a|a)|rfl
   .exact .inl (nb a)
   .exact .inl (t7 a)
   .exact .inr λM ρ=>wx (by unfold fits;decide))
  (λc o cap w M ρ t j h1 g hr=>by
   simp only[wG]at hr;obtain⟨v1,k,rfl,d,s,l,rfl,e,rfl⟩:=hr;obtain⟨rfl,_⟩:=Nu d;obtain⟨rfl,_⟩:=Nu e;have:=Tryz.slices_Delete_int c o cap i (i+1) ks w j h1 g ow ow;simp only[u0,List.replicate_one]at this;exact this)
 simpa using this
def Y4{ks:List Int}(k:i<ks.length)(m:ks.length<=1048576)(s:TR 1 d h=some (ks.map λn=>.int .i64 n))(p:∀c,kW prog .eql 30 c d .nilsl=some (.bool false)):
  zD prog 35 [d,.int .i64 i] h λr h'=>h'=h/\r=.sl 1 ((ks.eraseIdx i).map λn=>[.int .i64 n]) .no:=by
 refine xU kr λq=>zD.freezeD ?_;refine zj zOZ ?_;simp only[f35,zA];simp only[go_sem,Nat.reduceEqDiff,↓reduceIte];refine(GH s jO (by simpa using m) p).mono ?_;rintro r o ⟨rfl,rfl⟩;have t:IntKind.i64.wrap ((i:Int)+1)=((i+1:Nat):Int):=qH jL;simp only[go_sem,Nat.reduceEqDiff,↓reduceIte,t,zI];refine(GI k m (z5 _ _ _)).mono ?_;rintro r o ⟨rfl,rfl⟩;have e:ks.take i++ks.drop (i+1)=ks.eraseIdx i:=(oM ks i).symm;have a:(ks.eraseIdx i).length=ks.length-1:=List.length_eraseIdx_of_lt k;refine⟨h.next,_,zW _ _ _,(((Ext.refl h).new (zC _) _).set (zC _) _).del (zC _),?_⟩
 have f:frz h.next ((ks.take i++ks.drop (i+1)++ [0]).map λn=>.int .i64 n) (.rs h.next 1 0 (ks.length-1))=.sl 1 ((ks.eraseIdx i).map λn=>[.int .i64 n]) .no:=by
  have g:∀x∈(ks.eraseIdx i).map (λn=>[D.int .i64 n]),x.length=1:=λx j=>by obtain⟨n,_,rfl⟩:=zS.1 j;rfl
  have b:((ks.eraseIdx i).map λn=>[D.int .i64 n]).flatten=(ks.eraseIdx i).map λn=>D.int .i64 n:=by
   generalize ks.eraseIdx i=l
   induction l with
   |nil=>rfl
   |cons x l u=>simpa using u
  simp only[frz];rw[e,ip (by simp[a])];simp only[wn,wN,wD];rw[qt (by simp[a]),yP (by simp[a])];have:=pX g;rw[zI,a,b]at this;rw[this]
 rw[f];refine⟨?_,rfl⟩;simp only[below,zV];exact bB λx j=>by obtain⟨n,_,rfl⟩:=zS.1 j;exact⟨trivial,trivial⟩
def XI(ks:List Int):(ks.map λn=>[D.int .i64 n]).flatten=ks.map λn=>D.int .i64 n:=by
 induction ks with
 |nil=>rfl
 |cons x l a=>simpa using a
theorem Y8:∀(n:Nat)(cs:List D),cs.length=n->(wK 1 n cs).flatten=cs/\wK 1 n cs=cs.map λc=>[c]
 |0,cs,h=>by
  have:cs= []:=ye.1 h;subst this;exact⟨rfl,rfl⟩
 |n+1,c::cs,h=>by
  obtain⟨h1,a⟩:=Y8 n cs (by simpa using h);simp only[wK,pT,lS,d7,wN];exact⟨by rw[yT,h1];rfl,by rw[a];rfl⟩
 |n+1,[],h=>by simp at h
theorem gO(f:α->β):∀(l:List α)(i:Nat),(l.map f).eraseIdx i=(l.eraseIdx i).map f
 | [],_=>by simp
 |_::_,0=>by simp
 |x::l,i+1=>by simp[gO f l i]
def VB(ks:List Int)(i:Nat):(ks.map λn=>[D.int .i64 n]).eraseIdx i=(ks.eraseIdx i).map λn=>[D.int .i64 n]:=gO _ _ _
def Ug(e:aw args h.at'=some d):zD prog 35 args h λa b=>a=d/\b=h:=by
 unfold aw at e;split at e
 .rename_i x y
  split at e
  .rename_i i
   split at e
   .rename_i sz xs tk
    split at e
    .rename_i l
     simp only[zF,zO]at l;obtain⟨⟨⟨⟨h1,o⟩,h3⟩,k⟩,h5⟩:=l;cases e;have e1:sz=1:=z6 h1;subst e1;obtain⟨ks,rfl⟩:=cI o;rw[l8,zI]at k;have h5:=rO h5;rw[zI]at h5;obtain⟨j,rfl⟩:=uy h3;simp only[wV]at k⊢;refine(Y4 (d:=.sl 1 (ks.map λn=>[.int .i64 n]) tk) k h5 (by simp only[TR,qF,XI]) (λc=>by rw[um (yZ.mk tk) underlying30];rfl)).mono λa b f=> ?_;rw[VB];exact⟨f.2,f.1⟩
    .cases e
   .rename_i id sz off n
    split at e
    .rename_i cs q
     split at e
     .rename_i l
      simp only[zF,zO]at l;obtain⟨⟨⟨⟨⟨⟨h1,m⟩,o⟩,p⟩,h3⟩,k⟩,h5⟩:=l;cases e;have e1:sz=1:=z6 h1;have e2:off=0:=z6 m;have e3:cs.length=n:=z6 p;subst e1 e2;obtain⟨ks,r⟩:=cI o;obtain⟨s,u⟩:=Y8 n cs e3;have g:cs=ks.map λn=>.int .i64 n:=by rw[<-s,r,XI]
      have t:ks.length=n:=by rw[<-e3,g,zI]
      rw[l8]at k;have h5:=rO h5;obtain⟨j,rfl⟩:=uy h3;simp only[wV]at k⊢;refine(Y4 (ks:=ks) (d:=.rs id 1 0 n) ow ow (by simp only[TR,qF,q];rw[ip ow,wN,yP ow,g]) (λc=>P9 underlying30)).mono λa b f=> ?_;rw[r,VB];exact⟨f.2,f.1⟩
     .cases e
    .cases e
   .cases e
  .cases e
 .cases e
open Go.RowKit (Below)
inductive Pl where
 |nil
 |op (i:Nat) (f:Fl) (r:Pl)
 |or (a b:Pl)
def fH(P:Program)(mu:Tmp->Bool)(h0:Heap)(ops:Array Oper):Pl->(Frm->Heap->Prop)->Frm->Heap->Prop
 |.nil,K,fr,h=>K fr h
 |.op i f r,K,fr,h=>match ops[i]? with
  |none=>False
  |some o=>ux P mu h0 f ops o fr h λd h'=>HLe h0 h'/\fH P mu h0 ops r K (pv fr o.dst d) h'
 |.or a b,K,fr,h=>fH P mu h0 ops a K fr h/\fH P mu h0 ops b K fr h
def IQ(P:Program)(mu:Tmp->Bool)(ops:Array Oper)(i:Nat):Pl->Option (Fl×Pl)
 |.nil=>none
 |.op j s r=>match Nat.beq i j with
  |true=>some (s,r)
  |false=>match IQ P mu ops i r with
   |none=>none
   |some x=>match !s.isAl&&kR P mu ops (j,s) (i,x.1)with
    |true=>some (x.1,.op j s x.2)
    |false=>none
 |.or a b=>match IQ P mu ops i a with
  |some x=>some x
  |none=>IQ P mu ops i b
def jm(P:Program)(mu:Tmp->Bool)(ops:Array Oper):Nat->Array Bool->Pl->Bool
 |0,listed,pl=>(Region.ready .any ops listed).isEmpty&&(match pl with
  |.nil=>true
  |_=>false)
 |fuel+1,listed,pl=>(!(Region.ready .any ops listed).isEmpty||(match pl with
  |.nil=>true
  |_=>false))&&(Region.ready .any ops listed).all λi=>match IQ P mu ops i pl with
   |none=>false
   |some x=> !x.1.isAl&&jm P mu ops fuel (listed.setIfInBounds i true) x.2
section
variable{P:Program}{mu:Tmp->Bool}{c:Ctx P}{ms:List Nat}{n:Nat}{fr:Frm}{h h0:Heap}{a:Act}{w:World}{Q:Exit->Act->World->Prop}{ro:Option Nat}{ops:Array Oper}{K:Frm->Heap->Prop}
theorem dE{c:Frm->Heap->Prop}(b:∀fr h,K fr h->c fr h):∀(pl:Pl)(fr:Frm)(h:Heap),fH P mu h0 ops pl K fr h->fH P mu h0 ops pl c fr h
 |.nil,fr,h,a=>b _ _ a
 |.op i f r,fr,h,a=>by
  simp only[fH]at a⊢;split at a
  .exact a
  .exact ox (λd h' e=>⟨e.1,dE b r _ _ e.2⟩) a
 |.or x y,fr,h,a=>⟨dE b x fr h a.1,dE b y fr h a.2⟩
theorem fw{i:Nat}(k:ops[i]? =some o):∀(pl:Pl)(f:Fl)(c:Pl),IQ P mu ops i pl=some (f,c)->∀(fr:Frm)(h:Heap),fH P mu h0 ops pl K fr h->
  ux P mu h0 f ops o fr h λd h'=>HLe h0 h'/\fH P mu h0 ops c K (pv fr o.dst d) h'
 |.nil,f,c,a,fr,h,b=>by cases a
 |.or x y,f,c,a,fr,h,b=>by
  simp only[IQ]at a;split at a
  .rename_i z v
   cases a;exact fw k x _ _ v fr h b.1
  .exact fw k y _ _ a fr h b.2
 |.op j s r,f,c,a,fr,h,b=>by
  simp only[IQ]at a;simp only[fH]at b;split at a
  .rename_i n
   have e:i=j:=z6 n;subst e;cases a;rw[k]at b;exact b
  .split at a
   .cases a
   .rename_i x u
    split at a
    .rename_i p
     cases a;simp only[zF,qI]at p;cases m:ops[j]? with
     |none=>rw[m]at b;exact b.elim
     |some q=>
      rw[m]at b;have h1:ux P mu h0 s ops q fr h λe h'=>(true=true->HLe h0 h')/\ux P mu h0 x.1 ops o (pv fr q.dst e) h' λd g=>(true=true->HLe h0 g)/\fH P mu h0 ops x.2 K (pv (pv fr q.dst e) o.dst d) g:=
       ox (λe h' l=>⟨λ_=>l.1,ox (λd g hr=>⟨λ_=>hr.1,hr.2⟩) (fw k r _ _ u _ _ l.2)⟩) b
      have t:=HA (P:=P) (mu:=mu) (h0:=h0) (ops:=ops) (fl1:=true) (fl2:=true) (λe=>e) (j:=(j,s)) (i:=(i,x.1)) (λe=>by rw[p.1]at e;cases e) m k p.2 (X:=λfr h=>fH P mu h0 ops x.2 K fr h) h1;refine ox (λd h' l=>⟨l.1 rfl,?_⟩) t;simp only[fH,m];exact ox (λe g hr=>⟨hr.1 rfl,hr.2⟩) l.2
    .cases a
def NK(g:Wf n ops=true)(p:∀fr h a w,St c ms n fr h a w->K fr h->Q .normal a w):∀(fuel:Nat)(pl:Pl)(listed:Array Bool)(fr:Frm)(h:Heap)(a:Act)(w:World),jm P mu ops fuel listed pl=true->HLe h0 h->St c ms n fr h a w->fH P mu h0 ops pl K fr h->
  wpAnyIn (Fr ro) 0 P .any ops Q fuel listed a w:=by
 intro fuel
 induction fuel with
 |zero=>
  intro pl listed fr h a w b e j k;simp only[jm,zF,List.isEmpty_iff]at b;refine⟨b.1,?_⟩;cases pl with
  |nil=>exact p _ _ _ _ j k
  |op _ _ _=>exact absurd b.2 jS
  |or _ _=>exact absurd b.2 jS
 |succ fuel u=>
  intro pl listed fr h a w b e j k;simp only[jm,zF,zT]at b;refine⟨λhr=> ?_,λi q=> ?_⟩
  .have h1:=b.1
   rw[hr]at h1;cases pl with
   |nil=>exact p _ _ _ _ j k
   |op _ _ _=>exact absurd h1 jS
   |or _ _=>exact absurd h1 jS
  .obtain⟨h1,o,m,h3⟩:=gX.1 q
   have f:=b.2 i q;split at f
   .cases f
   .rename_i x t
    simp only[zF,qI]at f;have s:=fw m pl _ _ t fr h k;exact St.ux j f.1 m g (λ_=>e) s λd h' v y l r=>u _ _ _ _ _ _ f.2 r.1 l r.2
end
def zHf(P:Program)(g:Cfg)(n:Nat)(ro:Option Nat)(k:Nat)(pl:Pl):Code->(Exit->Frm->Heap->Prop)->Frm->Heap->Prop
 |.seq a b,Q,fr,h=>zHf P g n ro k pl a (lr (zHf P g n ro k pl b Q) Q) fr h
 |.region id ops draw,Q,fr,h=>match Nat.beq id k with
  |true=>∃h0,HLe h0 h/\fH P g.mu h0 ops pl (Q .normal) fr h
  |false=>vwp P g n ro (.region id ops draw) Q fr h
 |co,Q,fr,h=>vwp P g n ro co Q fr h
def ae(P:Program)(g:Cfg)(n:Nat)(k:Nat)(pl:Pl):Code->Bool
 |.seq a b=>ae P g n k pl a&&ae P g n k pl b
 |.region id ops draw=>match Nat.beq id k with
  |true=>Wf n ops&&(draw&&jm P g.mu ops ops.size (Array.replicate ops.size false) pl)
  |false=>tO P g n (.region id ops draw)
 |co=>tO P g n co
section
variable{P:Program}{g:Cfg}{c:Ctx P}{ms:List Nat}{n:Nat}{fr:Frm}{h:Heap}{a:Act}{w:World}{ro rb:Option Nat}{k:Nat}{pl:Pl}
theorem ZR(i:P.follows .mixedOrders=true):∀(co:Code)(c:Ctx P)(Q:Exit->Frm->Heap->Prop)(ms:List Nat)(fr:Frm)(h:Heap)(a:Act)(w:World),ae P g n k pl co=true->zHs c ro rb->StM c ms n fr h a w->zHf P g n ro k pl co Q fr h->
  co.wpIn (Fr rb) 0 P (KU c n Q) a w
 |.seq x y,c,Q,ms,fr,h,a,w,b,d,m,j=>by
  simp only[ae,zF]at b;simp only[zHf]at j;refine wpIn_seq (rc (ZR i x c _ ms fr h a w b.1 d m j) λe C I s=> ?_);obtain⟨r,o,h',p,s⟩:=s;cases e with
  |normal=>exact ZR i y c Q r o h' C I b.2 d p s
  |_=>exact⟨r,o,h',p,s⟩
 |.region id ops B,c,Q,ms,fr,h,a,w,b,d,m,j=>by
  simp only[ae]at b;simp only[zHf]at j;split at j
  .rename_i hid
   rw[hid]at b;simp only[zF]at b;obtain⟨o1,o2,H⟩:=b;subst o2;obtain⟨h0,t,j⟩:=j;obtain⟨A,u,v⟩:=m;have G:∀fr h a w,St c ms n fr h a w->Q .normal fr h->KU c n Q .normal a w:=λfr h a w k1 k2=>⟨ms,fr,h,⟨k1,u,v⟩,k2⟩;have q:St c ms n fr h a { w with drawn:=w.drawn+1 } :=by
    obtain⟨M,ρ,h1,E,h3,F⟩:=A;exact⟨M,ρ,h1,E,h3.drew,F⟩
   exact wpIn_region_any i (NK (ro:=rb) (h0:=h0) o1 G ops.size pl _ fr h a _ H t q j)
  .rename_i hid
   rw[hid]at b;exact qp i _ c Q ms fr h a w b d m j
 |.skip,c,Q,ms,fr,h,a,w,b,d,m,j=>qp i _ c Q ms fr h a w b d m j
 |.exit id,c,Q,ms,fr,h,a,w,b,d,m,j=>qp i _ c Q ms fr h a w b d m j
 |.ret,c,Q,ms,fr,h,a,w,b,d,m,j=>qp i _ c Q ms fr h a w b d m j
 |.block id x,c,Q,ms,fr,h,a,w,b,d,m,j=>qp i _ c Q ms fr h a w b d m j
 |.cond x y z,c,Q,ms,fr,h,a,w,b,d,m,j=>qp i _ c Q ms fr h a w b d m j
 |.loop x,c,Q,ms,fr,h,a,w,b,d,m,j=>qp i _ c Q ms fr h a w b d m j
 |.rangeFunc f J D body,c,Q,ms,fr,h,a,w,b,d,m,j=>qp i _ c Q ms fr h a w b d m j
 |.label l,c,Q,ms,fr,h,a,w,b,d,m,j=>qp i _ c Q ms fr h a w b d m j
 |.goto l,c,Q,ms,fr,h,a,w,b,d,m,j=>qp i _ c Q ms fr h a w b d m j
 |.scope x,c,Q,ms,fr,h,a,w,b,d,m,j=>qp i _ c Q ms fr h a w b d m j
 |.refuse l,c,Q,ms,fr,h,a,w,b,d,m,j=>qp i _ c Q ms fr h a w b d m j
end
def vtw(P:Program)(mu:Tmp->Bool)(h0:Heap)(ops:Array Oper):Pl->(Frm->Heap->Prop)->Frm->Heap->Prop
 |.nil,K,fr,h=>K fr h
 |.op i f r,K,fr,h=>onO ops[i]? λo=>KS P mu h0 f ops o fr h λd h'=>HLe h0 h'/\vtw P mu h0 ops r K (pv fr o.dst d) h'
 |.or a b,K,fr,h=>vtw P mu h0 ops a K fr h/\vtw P mu h0 ops b K fr h
section
variable{P:Program}{g:Cfg}{n:Nat}{ro:Option Nat}{k:Nat}{pl:Pl}{mu:Tmp->Bool}{h0:Heap}{Q:Exit->Frm->Heap->Prop}{fr:Frm}{h:Heap}{K:Frm->Heap->Prop}
theorem Yb{ops:Array Oper} :∀(pl:Pl)(fr:Frm)(h:Heap),vtw P mu h0 ops pl K fr h->fH P mu h0 ops pl K fr h
 |.nil,fr,h,a=>a
 |.or x y,fr,h,a=>⟨Yb x fr h a.1,Yb y fr h a.2⟩
 |.op i f r,fr,h,a=>by
  simp only[vtw]at a;simp only[fH];unfold onO at a;split at a
  .rename_i o c
   rw[c];exact ox (λd h' b=>⟨b.1,Yb r _ _ b.2⟩) (HN a)
  .exact a.elim
@[go_sem ↓] def zLw{ops:Array Oper} :vtw P mu h0 ops .nil K fr h=K fr h:=(rfl)
@[go_sem ↓] def zOF{l:List Oper}(i:Nat)(f:Fl)(r:Pl):vtw P mu h0 l.toArray (.op i f r) K fr h=onO l[i]? λo=>KS P mu h0 f l.toArray o fr h λd h'=>HLe h0 h'/\vtw P mu h0 l.toArray r K (pv fr o.dst d) h':=by
 simp only[vtw,uX]
def Heap.one(i:Nat)(o:Obj):Heap:=⟨0,λj=>if j=i then some o else none⟩
def kM(i:Nat)(o:Obj):(Heap.one i o).at' i=some o:=ip rfl
def mV{o:Obj} :HLe (Heap.one i o) h=(h.at' i=some o):=by
 apply propext;constructor
 .exact λq=>q i o (kM i o)
 .intro q j b a
  simp only[Heap.one]at a;split at a
  .rename_i e;subst e;cases a;exact q
  .cases a
end
section
variable{w0:Base}{G:List Nat}{M:Imm}{ρ:Ren}{h:Heap}{w:World}{id:Nat}{cs:List D}
def Sim.freeze(k3:Sim w0 G M ρ h w)(k6:h.at' id=some (.row cs)):∃M' l,MLe M M'/\ρ id=some l/\lM M' ρ cs l.blk 0/\Sim w0 G M' ρ (h.frz id cs) w:=by
 obtain⟨l,t,D,H,c,ty,E,O,P,F⟩:=k3.live id _ k6;have f:MLe M (mC M l.blk 0 (c.toList.take cs.length)):=lV λo _=>H o;have A:lM (mC M l.blk 0 (c.toList.take cs.length)) ρ cs l.blk 0:=uJ λi d B=>by
  obtain⟨s,u,y,z⟩:=F i d B;have m:=(zK.1 B).1;refine⟨s,u,?_,u9 f (RLe.refl _) _ _ z⟩;unfold mC;rw[ip ⟨rfl,ow,jO⟩];simp only[yH,tD,zu,ip m];simpa using y
 refine⟨mC M l.blk 0 (c.toList.take cs.length),l,f,t,A,?_⟩;refine { below:=k3.below,imm:=λb o u e=> ?_,live:=λi Q e=> ?_,apart:=λi j R S J K g k L N v=> ?_,gdef:=k3.gdef,old:=ZC k3.old D }
 .unfold mC at e
  split at e
  .rename_i a
   obtain⟨rfl,_,m⟩:=a;simp only[tD,zu]at e;split at e
   .simp[World.cell?,E];simpa using e
   .cases e
  .exact k3.imm b o u e
 .simp only[Heap.frz]at e
  split at e
  .cases e
  .rename_i x
   cases r:h.at' i with
   |none=>rw[r]at e;cases e
   |some q=>
    rw[r]at e;cases e;obtain⟨C,s,y,z⟩:=k3.live i q r;refine⟨C,s,y,VK f t A (λo I=> ?_) _ z⟩;unfold mC;rw[iq λa=>x (k3.apart i id q _ C l r k6 s t a.1)];exact I
 .simp only[Heap.frz]at g k
  split at g
  .cases g
  .split at k
   .cases k
   .cases n:h.at' i with
    |none=>rw[n]at g;cases g
    |some o1=>
     cases p:h.at' j with
     |none=>rw[p]at k;cases k
     |some o2=>exact k3.apart i j o1 o2 J K n p L N v
end
variable{P:Program}{h:Heap}{Q:D->Heap->Prop}{id:Nat}{cs:List D}{M:Imm}
def zD.argsFrz(n:h.at' id=some (.row cs))(i:zD P f (cq id cs args) (h.frz id cs) Q):zD P f args h Q:=by
 refine⟨i.1,λw0 G M ρ w r c q b hr=> ?_⟩;obtain⟨M',l,a,o,m,g⟩:=q.freeze n;refine(i.2 w0 G M' ρ w r c g b (fx a o m _ _ hr)).mono λe t p=> ?_;obtain⟨v,j,s,d,k,rfl,k1,k2,k3,k4,k5,k7⟩:=p;exact⟨v,j,s,d,k,rfl,a.trans k1,k2,k3,k4,k5,k7⟩
end Go.V
end
