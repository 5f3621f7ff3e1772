/- A list of closed calls of this program and their results, part 1. No condition. -/
import Derived.Test.YtkenagjlanhnmaaGreatDoorW18
set_option linter.all false
set_option maxHeartbeats 8000000
noncomputable section
namespace Go.V
open Go.Proofs.Tryz
def vB:D:=.int .i64 (0)
def vK:D:=.sl 1 [[(.str [98])]] .no
def vL:D:=.int .i64 (1)
def vM:D:=.nilsl
def vO:D:=.int .i64 (2)
def vR:D:=.bool true
def vV:D:=.int .i64 (4)
def vW:D:=.int .i64 (3)
def vZ:D:=.str [120,47,111,117,116]
def vg:D:=.str []
def vo:D:=.bool false
def vC:List D:=[vO,vg,vZ,vB,vL,vB,vo,vB,vg,vg,vM,vM]
def vD:List D:=[vW,vg,vZ,vB,vB,vB,vo,vB,vg,vg,vM,vK]
def vG:List D:=[vW,vg,(.str [121,47,111]),vB,vB,vB,vo,vB,vg,vg,vM,vK]
def vJ:List D:=[(.agg [vB,vM]),vo,vB]
def vq:D:=.sl 1 [] .no
def vt:D:=.agg [vV,(.sl 1 [[vO],[vW]] .no)]
def vu:D:=.sl 1 [[vL],[vO]] .no
def vz:D:=.sl 1 [[vB],[vL],[vO]] .no
def v8:D:=.str [97]
def vH:D:=.sl 1 [[(.sl 2 [[v8,vg]] .no)]] .no
def vP:D:=.sl 1 [[v8]] .no
def vA:D:=.agg [(.sl 4 [[v8,v8,vL,vg],[(.str [98]),(.str [98]),vL,vg]] .no),vM,(.sl 5 [[v8,vL,vB,vV,vP]] .no),vM]
def vT:D:=.agg [vH,(.sl 1 [[vg]] .no)]
def vn:D:=.agg [vH,vP]
def vw:D:=.agg [vH,vK]
def v9:D:=.sl 12 [vG] .no
def vAA:D:=.int .i64 (-1)
def vS:D:=.sl 4 [[vL,vu,vB,vM],[vAA,vM,vV,(.sl 1 [[vO],[vW]] .no)],[vAA,vM,vL,vz]] .no
def vI:List D:=[(.sl 1 [[vB],[vO],[vW],[vV]] .no),vS,(.sl 2 [[vM,vK],[vH,vK],[vH,vM],[vH,vP]] .no)]
def vAB:D:=.str [120,47,102]
def vE:List D:=[vL,vAB,vg,vB,vB,vB,vo,vB,v8,vg,vM,vM]
def vF:List D:=[vB,vAB,vZ,vB,vB,vB,vo,vB,vg,vg,vM,vM]
def vQ:D:=.sl 12 [vE,vG,vF,vC,vD] .no
def vU:D:=.sl 12 [vE,vF,vC,vD] .no
def vX:D:=.sl 12 [vF,vC,vD] .no
def vY:D:=.sl 12 [vE,vC,vD] .no
def vd:D:=.sl 12 [vE,vG,vF,vC] .no
def ve:D:=.sl 12 [vE,vG,vC,vD] .no
def vh:D:=.sl 12 [vE,vF,vC] .no
def vj:D:=.sl 12 [vE,vF,vD] .no
def vp:D:=.sl 12 [vE,vG,vF,vD] .no
def vAC:D:=.sl 1 [[vH]] .no
def vN:List D:=[vAC,(.sl 1 [[vZ]] .no),vB]
def vAD:D:=.sl 1 [[vB],[vO],[vW]] .no
open Go.Proofs
def Ql:List (List D)->Bool
 | []=>true
 |x::xs=>(match x with
  | [.int k _]=>match k with
   |.i64=>true
   |_=>false
  |_=>false)&&Ql xs
def Zn(args:List D)(hp:Nat->Option Obj):Option D:=
 match args with
 | [x,y]=>match y with
  |.int .i64 i=>match x with
   |.sl sz xs _=>if Nat.beq sz 1&&Ql xs&&decide (0<=i)&&Nat.blt i.toNat xs.length&&Nat.ble xs.length 1048576 then some (.sl 1 (xs.eraseIdx i.toNat) .no)else none
   |.rs id sz off n=>match hp id with
    |some (.row cs)=>if Nat.beq sz 1&&Nat.beq off 0&&Ql (wP 1 n cs)&&Nat.beq cs.length n&&decide (0<=i)&&Nat.blt i.toNat n&&Nat.ble n 1048576 then some (.sl 1 ((wP 1 n cs).eraseIdx i.toNat) .no)else none
    |_=>none
   |_=>none
  |_=>none
 |_=>none
def zJh(g:FuncId)(args:List D)(hp:Nat->Option Obj):FR:=
 match Nat.beq g 158 with
 |true=>T5 (XE args)
 |false=>
  match Nat.beq g 159 with
  |true=>T5 (aP args)
  |false=>
   match Nat.beq g 213 with
   |true=>T5 (aP args)
   |false=>
    match Nat.beq g 214 with
    |true=>T5 (Td args)
    |false=>
     match Nat.beq g 35 with
     |true=>T5 (Zn args hp)
     |false=>
      none
def zIh(g:FuncId):Bool:=List.contains (α:=Nat) [26,149,87,50,90,165,166,164,97,69,148,364,366,245,208,246,33,123,74,35,34,13,49,18,21,11,47,14,32,132,93,94] g
def m0:so:=[]
abbrev rU:=Nat× (List D×D)
def rX(m:so)(e:rU):Prop:=(Dg prog tab zIh (zGM zJh m) 1000 60 [] (.fn (.func e.1) [] []) e.2.1 HT.emp).map (λr=>fg r.1 r.2.heap)=some e.2.2
def rq{m:so}{e:rU}(h:(Dg prog tab zIh (zGM zJh m) 1000 60 [] (.fn (.func e.1) [] []) e.2.1 HT.emp).map (λr=>fg r.1 r.2.heap)=some e.2.2:=by kernel_rfl):rX m e:=h
def en1:rU:=(69,([vA],.int .i64 (0)))
def m1:so:=en1::m0
def en2:rU:=(26,([(.str [108,105,99,101,110,115,101,32,97,32,97,32,49,32,48,10,108,105,99,101,110,115,101,32,98,32,98,32,49,32,48,10,99,108,97,117,115,101,32,97,32,98,105,110,97,114,121,32,105,110,32,115,104,97,114,101,32,97,10])],.tuple [vA,vB,vB]))
def m2:so:=en2::m1
def en3:rU:=(245,([vAB],.int .i64 (0)))
def m3:so:=en3::m2
def en4:rU:=(245,([(.str [121,47,111])],.int .i64 (0)))
def m4:so:=en4::m3
def en5:rU:=(245,([vZ],.int .i64 (0)))
def m5:so:=en5::m4
def en6:rU:=(87,([vA,vQ],.tuple vN))
def m6:so:=en6::m5
def en7:rU:=(19,([vA,vQ],.tuple [vO,vB]))
def m7:so:=en7::m6
def en8:rU:=(90,([vA,vQ,vT],.tuple vJ))
def m8:so:=en8::m7
def en9:rU:=(90,([vA,vQ,vn],.tuple [(.agg [vV,(.sl 1 [[vW],[vV]] .no)]),vR,vB]))
def m9:so:=en9::m8
def zOA:rU:=(90,([vA,vQ,vw],.tuple [(.agg [vL,vAD]),vR,vB]))
def m10:so:=zOA::m9
def zOB:rU:=(14,([vA,vQ],.tuple [(.agg [vo,vM,vM,(.sl 4 [[vL,vu,vB,vM],[vAA,vM,vV,(.sl 1 [[vW],[vV]] .no)],[vAA,vM,vL,vAD]] .no)]),vB]))
def m11:so:=zOB::m10
def zOC:rU:=(87,([vA,vd],.tuple vN))
def m12:so:=zOC::m11
def zOD:rU:=(19,([vA,vd],.tuple [vO,vB]))
def m13:so:=zOD::m12
def zOE:rU:=(90,([vA,vd,vT],.tuple vJ))
def m14:so:=zOE::m13
def zOF:rU:=(90,([vA,vd,vn],.tuple vJ))
def m15:so:=zOF::m14
def zOG:rU:=(14,([vA,vd],.tuple [(.agg [vR,vH,vP,vM]),vB]))
def m16:so:=zOG::m15
def zOH:rU:=(87,([vA,vp],.tuple [vAC,vM,vB]))
def m17:so:=zOH::m16
def zOI:rU:=(19,([vA,vp],.tuple [vL,vB]))
def m18:so:=zOI::m17
def zOJ:rU:=(90,([vA,vp,(.agg [vH,vq])],.tuple vJ))
def m19:so:=zOJ::m18
def zOK:rU:=(14,([vA,vp],.tuple [(.agg [vR,vH,vM,vM]),vB]))
def m20:so:=zOK::m19
def zOL:rU:=(87,([vA,ve],.tuple vN))
def m21:so:=zOL::m20
def zOM:rU:=(19,([vA,ve],.tuple [vO,vB]))
def m22:so:=zOM::m21
def zON:rU:=(90,([vA,ve,vT],.tuple vJ))
def m23:so:=zON::m22
def zOO:rU:=(90,([vA,ve,vn],.tuple [vt,vR,vB]))
def m24:so:=zOO::m23
def zOP:rU:=(90,([vA,ve,vw],.tuple vJ))
def m25:so:=zOP::m24
def zOQ:rU:=(14,([vA,ve],.tuple [(.agg [vR,vH,vK,vM]),vB]))
def m26:so:=zOQ::m25
def zOR:rU:=(87,([vA,vU],.tuple vN))
def m27:so:=zOR::m26
def zOS:rU:=(19,([vA,vU],.tuple [vO,vB]))
def m28:so:=zOS::m27
def zOT:rU:=(90,([vA,vU,vT],.tuple vJ))
def m29:so:=zOT::m28
def zOU:rU:=(90,([vA,vU,vn],.tuple [vt,vR,vB]))
def m30:so:=zOU::m29
def zOV:rU:=(90,([vA,vU,vw],.tuple [(.agg [vL,vz]),vR,vB]))
def m31:so:=zOV::m30
def zOW:rU:=(14,([vA,vU],.tuple [(.agg [vo,vM,vM,vS]),vB]))
def m32:so:=zOW::m31
def zOX:rU:=(87,([vA,vX],.tuple [vM,(.sl 1 [[vZ]] .no),vB]))
def m33:so:=zOX::m32
def zOY:rU:=(19,([vA,vX],.tuple [vO,vB]))
def m34:so:=zOY::m33
def zOZ:rU:=(90,([vA,vX,(.agg [vq,(.sl 1 [[vg]] .no)])],.tuple vJ))
def m35:so:=zOZ::m34
def zOa:rU:=(90,([vA,vX,(.agg [vq,vP])],.tuple [(.agg [vV,vu]),vR,vB]))
def m36:so:=zOa::m35
def zOb:rU:=(90,([vA,vX,(.agg [vq,vK])],.tuple vJ))
def m37:so:=zOb::m36
def zOc:rU:=(14,([vA,vX],.tuple [(.agg [vR,vM,vK,vM]),vB]))
def m38:so:=zOc::m37
def zOd:rU:=(87,([vA,vY],.tuple vN))
def m39:so:=zOd::m38
def zOe:rU:=(19,([vA,vY],.tuple [vO,vB]))
def m40:so:=zOe::m39
def zOf:rU:=(90,([vA,vY,vT],.tuple vJ))
def m41:so:=zOf::m40
def zOg:rU:=(90,([vA,vY,vn],.tuple [(.agg [vV,vu]),vR,vB]))
def m42:so:=zOg::m41
def zOh:rU:=(90,([vA,vY,vw],.tuple vJ))
def m43:so:=zOh::m42
def zOi:rU:=(14,([vA,vY],.tuple [(.agg [vR,vH,vK,vM]),vB]))
def m44:so:=zOi::m43
def zOj:rU:=(87,([vA,vj],.tuple [vAC,vM,vB]))
def m45:so:=zOj::m44
def zOk:rU:=(19,([vA,vj],.tuple [vL,vB]))
def m46:so:=zOk::m45
def zOl:rU:=(90,([vA,vj,(.agg [vH,vq])],.tuple vJ))
def m47:so:=zOl::m46
def zOm:rU:=(14,([vA,vj],.tuple [(.agg [vR,vH,vM,vM]),vB]))
def m48:so:=zOm::m47
def zOn:rU:=(87,([vA,vh],.tuple vN))
def m49:so:=zOn::m48
def zOo:rU:=(19,([vA,vh],.tuple [vO,vB]))
def m50:so:=zOo::m49
def zOp:rU:=(90,([vA,vh,vT],.tuple vJ))
def m51:so:=zOp::m50
def zOq:rU:=(90,([vA,vh,vn],.tuple vJ))
def m52:so:=zOq::m51
def zOr:rU:=(14,([vA,vh],.tuple [(.agg [vR,vH,vP,vM]),vB]))
def m53:so:=zOr::m52
def zOs:rU:=(18,([vA,vQ],.tuple [(.agg vI),vB]))
def m54:so:=zOs::m53
def zOt:rU:=(18,([vA,vd],.tuple [(.agg [vM,vM,vM]),(.int .i64 (14))]))
def m55:so:=zOt::m54
def zOu:rU:=(87,([vA,v9],.tuple [vM,vM,vB]))
def m56:so:=zOu::m55
def zOv:rU:=(19,([vA,v9],.tuple [vL,vB]))
def m57:so:=zOv::m56
def zOw:rU:=(90,([vA,v9,(.agg [vq,vq])],.tuple vJ))
def m58:so:=zOw::m57
def zOx:rU:=(14,([vA,v9],.tuple [(.agg [vR,vM,vM,vM]),vB]))
def m59:so:=zOx::m58
def zOy:rU:=(21,([vA,vQ],.tuple [(.sl 3 [vI] .no),vB]))
def m60:so:=zOy::m59
def zOz:rU:=(123,([vA,vU,vn,vt],.int .i64 (0)))
def m61:so:=zOz::m60
def zO0:rU:=(123,([vA,vU,vw,(.agg [vL,vz])],.int .i64 (0)))
def m62:so:=zO0::m61
def zO1:rU:=(33,([vA,vX,(.agg [vM,vK])],.tuple [vR,vB]))
def m63:so:=zO1::m62
def zO2:rU:=(33,([vA,vY,vw],.tuple [vR,vB]))
def m64:so:=zO2::m63
def zO3:rU:=(33,([vA,vj,(.agg [vH,vM])],.tuple [vR,vB]))
def m65:so:=zO3::m64
def zO4:rU:=(33,([vA,vh,vn],.tuple [vR,vB]))
def m66:so:=zO4::m65
def zO5:rU:=(11,([vA,vQ,(.agg vI)],.int .i64 (0)))
def m67:so:=zO5::m66
def zO6:rU:=(87,([vA,vM],.tuple [vM,vM,vB]))
def m68:so:=zO6::m67
def zO7:rU:=(19,([vA,vM],.tuple [vL,vB]))
def m69:so:=zO7::m68
def zO8:rU:=(11,([vA,vQ,(.agg [vM,vM,vM])],.int .i64 (18)))
def m70:so:=zO8::m69
def zPy:rU:=(8,([],.bool true))
end Go.V
namespace Go.Proofs
open Go.Shelf
def Tryz.laysNm223_ren:Go.Shelf.Ren:=⟨fun|23=>78|n=>n,fun|22=>30|3=>3|4=>4|0=>0|n=>n,fun|n=>n⟩
def Tryz.laysNm223:Go.Proofs.Lays2.n23 Tryz.prog Tryz.laysNm223_ren:=by constructor<;>intros<;>exact lay_k
open Go.RowKit Go.Lib Go.Sort in
def Tryz.slices_Delete_int(a off cap i j:Nat)(zs:List Int)(w:World)(d:Holds (Value.int .i64) w a off zs.toArray)(b:zs.length<=cap)(g:cap<=9223372036854775807)(c:i<=j)(f:j<=zs.length):
  Calls Tryz.prog 78 #[.slice (some ⟨a,off,none⟩) zs.length cap,.int .i64 i,.int .i64 j] w λe h=>e=.returned (.slice (some ⟨a,off,none⟩) (zs.length- (j-i)) cap)/\∃q,h=putRow (Value.int .i64) (Sort.ahead w q) a off (zs.take i++zs.drop j++List.replicate (j-i) 0).toArray:=Any.slices_Delete_int Tryz.laysNm223 a off cap i j zs w d b g c f
end Go.Proofs
namespace Go.V
open Go.Proofs.Tryz
open Go.Proofs
set_option maxRecDepth 100000
variable{d:D}{h:Heap}{M:Imm}{ρ:Ren}{v:Value}{i id:Nat}{α β:Type}{args:List D}
def Mk{cells:List D}(f:Us 1 d h=some cells)(h0:0<cells.length)(g:cells.length<=1048576)(e:∀c,jR prog .eql 30 c d .nilsl=some (.bool false)):
  zE prog 79 [d] h λr h'=>r=.rs h.next 1 0 cells.length/\h'=h.new h.next (.row cells):=by
 refine zo zM9 ?_;simp only[f79,zA];simp only[go_sem,Nat.reduceEqDiff,↓reduceIte,e,uP,Nat.reduceBEq,wa qS s8 uz rfl rfl (by omega:0<1)];have b:(cells.length)*8<=lim:=jL;have a:cells.length<=lim:=jL
 have:qg prog true h.next 30 (.sl 1 [] .full) d h=some (.rs h.next 1 0 cells.length,h.new h.next (.row cells)):=by
  simp only[qg,qS,ZQ,uz,qK,f,Nat.div_one,tt,mV,qO,yP];rw[ip (by simp[b,a]),iq ow];simp[Ud underlying3]
 simp only[this,go_sem]
theorem bD:∀{xs:List (List D)},Ql xs=true->∃ks:List Int,xs=ks.map λn=>[.int .i64 n]
 | [],_=>⟨[],rfl⟩
 |x::xs,h=>by
  simp only[Ql,zF]at h;obtain⟨ks,rfl⟩:=bD h.2;have h1:=h.1;split at h1
  .rename_i k n
   split at h1
   .exact⟨n::ks,rfl⟩
   .cases h1
  .cases h1
def M6{n:Int}(h:rel M ρ (.int .i64 n) v):v=.int .i64 n/\fits .i64 n:=by
 simp only[rel]at h;exact⟨h.1,h.2⟩
def F6{ks:List Int}(p:i<ks.length)(q:ks.length<=1048576)(b:h.at' id=some (.row (ks.map λn=>.int .i64 n))):
  zE prog 78 [.rs id 1 0 ks.length,.int .i64 i,.int .i64 ((i+1:Nat):Int)] h λr h'=>r=.rs id 1 0 (ks.length-1)/\h'=h.set id (.row ((ks.take i++ks.drop (i+1)++ [0]).map λn=>.int .i64 n)):=by
 have:=zE.of_row (P:=prog) (f:=78) (α:=Int) (enc:=Value.int .i64) (dd:=λn=>.int .i64 n) (λM ρ x v hr=>zGI hr) (λ_=>rfl) (xs:=ks) (ys:=ks.take i++ks.drop (i+1)++ [0]) (m:=ks.length-1) (rest:=[.int .i64 i,.int .i64 ((i+1:Nat):Int)]) (id:=id) (pre:=[]) (post:=[]) (h:=h) kr (by simpa using b) ow jO ow
  (λy a=>by
   simp only[yv,zi]at a;rcases a with(a|a)|rfl
   .exact .inl (sV a)
   .exact .inl (dz a)
   .exact .inr λM ρ=>uJ (by unfold fits;decide))
  (λc o cap w M ρ t j h1 g hr=>by
   simp only[wI]at hr;obtain⟨v1,k,rfl,d,s,l,rfl,e,rfl⟩:=hr;obtain⟨rfl,_⟩:=M6 d;obtain⟨rfl,_⟩:=M6 e;have:=Tryz.slices_Delete_int c o cap i (i+1) ks w j h1 g ow ow;simp only[uR,List.replicate_one]at this;exact this)
 simpa using this
def bu{ks:List Int}(k:i<ks.length)(m:ks.length<=1048576)(s:Us 1 d h=some (ks.map λn=>.int .i64 n))(p:∀c,jR prog .eql 30 c d .nilsl=some (.bool false)):
  zE prog 35 [d,.int .i64 i] h λr h'=>h'=h/\r=.sl 1 ((ks.eraseIdx i).map λn=>[.int .i64 n]) .no:=by
 refine xU kr λq=>zE.freezeD ?_;refine zo zP9 ?_;simp only[f35,zA];simp only[go_sem,Nat.reduceEqDiff,↓reduceIte];refine(Mk s jO (by simpa using m) p).mono ?_;rintro r o ⟨rfl,rfl⟩;have t:IntKind.i64.wrap ((i:Int)+1)=((i+1:Nat):Int):=qR jL;simp only[go_sem,Nat.reduceEqDiff,↓reduceIte,t,zH];refine(F6 k m (z5 _ _ _)).mono ?_;rintro r o ⟨rfl,rfl⟩;have e:ks.take i++ks.drop (i+1)=ks.eraseIdx i:=(List.eraseIdx_eq_take_drop_succ ks i).symm;have a:(ks.eraseIdx i).length=ks.length-1:=List.length_eraseIdx_of_lt k;refine⟨h.next,_,zU _ _ _,(((Ext.refl h).new (zD _) _).set (zD _) _).del (zD _),?_⟩
 have f:frz h.next ((ks.take i++ks.drop (i+1)++ [0]).map λn=>.int .i64 n) (.rs h.next 1 0 (ks.length-1))=.sl 1 ((ks.eraseIdx i).map λn=>[.int .i64 n]) .no:=by
  have g:∀x∈(ks.eraseIdx i).map (λn=>[D.int .i64 n]),x.length=1:=λx j=>by obtain⟨n,_,rfl⟩:=zN.1 j;rfl
  have b:((ks.eraseIdx i).map λn=>[D.int .i64 n]).flatten=(ks.eraseIdx i).map λn=>D.int .i64 n:=by
   generalize ks.eraseIdx i=l
   induction l with
   |nil=>rfl
   |cons x l u=>simpa using u
  simp only[frz];rw[e,ip (by simp[a])];simp only[wF,wS,qf];rw[qm (by simp[a]),yO (by simp[a])];have:=p4 g;rw[zH,a,b]at this;rw[this]
 rw[f];refine⟨?_,rfl⟩;simp only[below,zT];exact bm λx j=>by obtain⟨n,_,rfl⟩:=zN.1 j;exact⟨trivial,trivial⟩
def aF(ks:List Int):(ks.map λn=>[D.int .i64 n]).flatten=ks.map λn=>D.int .i64 n:=by
 induction ks with
 |nil=>rfl
 |cons x l a=>simpa using a
theorem Xw:∀(n:Nat)(cs:List D),cs.length=n->(wP 1 n cs).flatten=cs/\wP 1 n cs=cs.map λc=>[c]
 |0,cs,h=>by
  have:cs= []:=yN.1 h;subst this;exact⟨rfl,rfl⟩
 |n+1,c::cs,h=>by
  obtain⟨h1,a⟩:=Xw n cs (by simpa using h);simp only[wP,pz,pc,List.drop_succ_cons,wS];exact⟨by rw[yH,h1];rfl,by rw[a];rfl⟩
 |n+1,[],h=>by simp at h
theorem lz(f:α->β):∀(l:List α)(i:Nat),(l.map f).eraseIdx i=(l.eraseIdx i).map f
 | [],_=>by simp
 |_::_,0=>by simp
 |x::l,i+1=>by simp[lz f l i]
def V9(ks:List Int)(i:Nat):(ks.map λn=>[D.int .i64 n]).eraseIdx i=(ks.eraseIdx i).map λn=>[D.int .i64 n]:=lz _ _ _
def Te(e:Zn args h.at'=some d):zE prog 35 args h λa b=>a=d/\b=h:=by
 unfold Zn at e;split at e
 .rename_i x y
  split at e
  .rename_i i
   split at e
   .rename_i sz xs tk
    split at e
    .rename_i l
     simp only[zF,zP]at l;obtain⟨⟨⟨⟨h1,o⟩,h3⟩,k⟩,h5⟩:=l;cases e;have e1:sz=1:=yZ h1;subst e1;obtain⟨ks,rfl⟩:=bD o;rw[kp,zH]at k;have h5:=nk h5;rw[zH]at h5;obtain⟨j,rfl⟩:=tI h3;simp only[wE]at k⊢;refine(bu (d:=.sl 1 (ks.map λn=>[.int .i64 n]) tk) k h5 (by simp only[Us,qK,aF]) (λc=>by rw[uj (yg.mk tk) underlying30];rfl)).mono λa b f=> ?_;rw[V9];exact⟨f.2,f.1⟩
    .cases e
   .rename_i id sz off n
    split at e
    .rename_i cs q
     split at e
     .rename_i l
      simp only[zF,zP]at l;obtain⟨⟨⟨⟨⟨⟨h1,m⟩,o⟩,p⟩,h3⟩,k⟩,h5⟩:=l;cases e;have e1:sz=1:=yZ h1;have e2:off=0:=yZ m;have e3:cs.length=n:=yZ p;subst e1 e2;obtain⟨ks,r⟩:=bD o;obtain⟨s,u⟩:=Xw n cs e3;have g:cs=ks.map λn=>.int .i64 n:=by rw[<-s,r,aF]
      have t:ks.length=n:=by rw[<-e3,g,zH]
      rw[kp]at k;have h5:=nk h5;obtain⟨j,rfl⟩:=tI h3;simp only[wE]at k⊢;refine(bu (ks:=ks) (d:=.rs id 1 0 n) ow ow (by simp only[Us,qK,q];rw[ip ow,wS,yO ow,g]) (λc=>VA underlying30)).mono λa b f=> ?_;rw[r,V9];exact⟨f.2,f.1⟩
     .cases e
    .cases e
   .cases e
  .cases e
 .cases e
open Go.RowKit (Below)
inductive Pl where
 |nil
 |op (i:Nat) (f:Fl) (r:Pl)
 |or (a b:Pl)
section
variable{P:Program}{g:Cfg}{n:Nat}{ro:Option Nat}{k:Nat}{pl:Pl}{mu:Tmp->Bool}{h0:Heap}{Q:Exit->Frm->Heap->Prop}{fr:Frm}{h:Heap}{K:Frm->Heap->Prop}
def Heap.one(i:Nat)(o:Obj):Heap:=⟨0,λj=>if j=i then some o else none⟩
def jJ(i:Nat)(o:Obj):(Heap.one i o).at' i=some o:=ip rfl
def lH{o:Obj} :HLe (Heap.one i o) h=(h.at' i=some o):=by
 apply propext;constructor
 .exact λq=>q i o (jJ i o)
 .intro q j b a
  simp only[Heap.one]at a;split at a
  .rename_i e;subst e;cases a;exact q
  .cases a
end
section
variable{w0:Base}{G:List Nat}{M:Imm}{ρ:Ren}{h:Heap}{w:World}{id:Nat}{cs:List D}
def Sim.freeze(k3:Sim w0 G M ρ h w)(k6:h.at' id=some (.row cs)):∃M' l,MLe M M'/\ρ id=some l/\kA M' ρ cs l.blk 0/\Sim w0 G M' ρ (h.frz id cs) w:=by
 obtain⟨l,t,D,H,c,ty,E,O,P,F⟩:=k3.live id _ k6;have f:MLe M (mg M l.blk 0 (c.toList.take cs.length)):=kI λo _=>H o;have A:kA (mg M l.blk 0 (c.toList.take cs.length)) ρ cs l.blk 0:=uT λi d B=>by
  obtain⟨s,u,y,z⟩:=F i d B;have m:=(zK.1 B).1;refine⟨s,u,?_,tL f (RLe.refl _) _ _ z⟩;unfold mg;rw[ip ⟨rfl,ow,jO⟩];simp only[yP,tO,yI,ip m];simpa using y
 refine⟨mg M l.blk 0 (c.toList.take cs.length),l,f,t,A,?_⟩;refine { below:=k3.below,imm:=λb o u e=> ?_,live:=λi Q e=> ?_,apart:=λi j R S J K g k L N v=> ?_,gdef:=k3.gdef,old:=Zv k3.old D }
 .unfold mg at e
  split at e
  .rename_i a
   obtain⟨rfl,_,m⟩:=a;simp only[tO,yI]at e;split at e
   .simp[World.cell?,E];simpa using e
   .cases e
  .exact k3.imm b o u e
 .simp only[Heap.frz]at e
  split at e
  .cases e
  .rename_i x
   cases r:h.at' i with
   |none=>rw[r]at e;cases e
   |some q=>
    rw[r]at e;cases e;obtain⟨C,s,y,z⟩:=k3.live i q r;refine⟨C,s,y,UI f t A (λo I=> ?_) _ z⟩;unfold mg;rw[iq λa=>x (k3.apart i id q _ C l r k6 s t a.1)];exact I
 .simp only[Heap.frz]at g k
  split at g
  .cases g
  .split at k
   .cases k
   .cases n:h.at' i with
    |none=>rw[n]at g;cases g
    |some o1=>
     cases p:h.at' j with
     |none=>rw[p]at k;cases k
     |some o2=>exact k3.apart i j o1 o2 J K n p L N v
end
end Go.V
end
