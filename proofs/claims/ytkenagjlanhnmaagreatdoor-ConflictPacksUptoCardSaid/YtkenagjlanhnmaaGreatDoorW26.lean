/- Library functions in the closed calls, and the function awake of chapter 40 returns true, part 1. No condition. -/
import Derived.Test.YtkenagjlanhnmaaGreatDoorW22
import Derived.Test.YtkenagjlanhnmaaGreatDoorW23
import Derived.Test.YtkenagjlanhnmaaGreatDoorW24
import Derived.Test.YtkenagjlanhnmaaGreatDoorW25
set_option linter.all false
set_option maxHeartbeats 8000000
namespace Go.V
open Go.Proofs.Tryz
open Go.Proofs
def zGf:Fe prog zJh:=λg args h r a=>by
 unfold zJh at a;split at a
 .rename_i f
  have e:g=158:=yZ f;subst e;exact aY a λd b=>WO kr (λs c w=>Tryz.strings_Count_one s c w) b h
 .skip
  split at a
  .rename_i f
   have e:g=159:=yZ f;subst e;exact aY a λd b=>bI kr (λs c w=>Tryz.strings_Index_one s c w) b h
  .skip
   split at a
   .rename_i f
    have e:g=213:=yZ f;subst e;exact aY a λd b=>bI kr (λs c w=>Tryz.stringslite_Index_one s c w) b h
   .skip
    split at a
    .rename_i f
     have e:g=214:=yZ f;subst e;exact aY a λd b=>UE kr (λs c w h0 h1 i h3=>KH Tryz.lays160 kr s c w h0 h1 i h3) b h
    .skip
     split at a
     .rename_i f
      have e:g=35:=yZ f;subst e;exact aY a λd b=>Te b
     .skip
      cases a
set_option maxRecDepth 100000
def rn{m:so}{e:rU}(b:cJ prog m)(c:rX m e)(h1:om e.2.1=true:=by rfl)(a:gz e.2.2=true:=by rfl):cJ prog (e::m):=cJ.add mix zIr zGf b h1 a c
def k0:cJ prog m0:=trivial
def k1:=rn k0 r1
def k2:=rn k1 r2
def k3:=rn k2 r3
def k4:=rn k3 r4
def k5:=rn k4 r5
def k6:=rn k5 r6
def k7:=rn k6 r7
def k8:=rn k7 r8
def k9:=rn k8 r9
def k10:=rn k9 r10
def k11:=rn k10 r11
def k12:=rn k11 r12
def k13:=rn k12 r13
def k14:=rn k13 r14
def k15:=rn k14 r15
def k16:=rn k15 r16
def k17:=rn k16 r17
def k18:=rn k17 r18
def k19:=rn k18 r19
def k20:=rn k19 r20
def k21:=rn k20 r21
def k22:=rn k21 r22
def k23:=rn k22 r23
def k24:=rn k23 r24
def k25:=rn k24 r25
def k26:=rn k25 r26
def k27:=rn k26 r27
def k28:=rn k27 r28
def k29:=rn k28 r29
def k30:=rn k29 r30
def k31:=rn k30 r31
def k32:=rn k31 r32
def k33:=rn k32 r33
def k34:=rn k33 r34
def k35:=rn k34 r35
def k36:=rn k35 r36
def k37:=rn k36 r37
def k38:=rn k37 r38
def k39:=rn k38 r39
def k40:=rn k39 r40
def k41:=rn k40 r41
def k42:=rn k41 r42
def k43:=rn k42 r43
def k44:=rn k43 r44
def k45:=rn k44 r45
def k46:=rn k45 r46
def k47:=rn k46 r47
def k48:=rn k47 r48
def k49:=rn k48 r49
def k50:=rn k49 r50
def k51:=rn k50 r51
def k52:=rn k51 r52
def k53:=rn k52 r53
def k54:=rn k53 r54
def k55:=rn k54 r55
def k56:=rn k55 r56
def k57:=rn k56 r57
def k58:=rn k57 r58
def k59:=rn k58 r59
def k60:=rn k59 r60
def k61:=rn k60 r61
def k62:=rn k61 r62
def k63:=rn k62 r63
def k64:=rn k63 r64
def k65:=rn k64 r65
def k66:=rn k65 r66
def k67:=rn k66 r67
def k68:=rn k67 r68
def k69:=rn k68 r69
def k70:=rn k69 r70
def k71:=rn k70 r71
def Yq(h:Heap):zE prog 8 [] h λa b=>a=.bool true/\b=h:=k71.1 h
open Go.RowKit (Below)
variable{P:Program}{f:FuncId}{args cs:List D}{h:Heap}{id:Nat}
def zE.borrow{n:D}(r:∀M ρ v,rel M ρ n v->∀M' K,rel M' K n v)(y:h.at' id=some (.row cs))(a:qM 0 (cR id cs args))(H:zE P f (cR id cs args) Heap.emp λd _=>d=n):zE P f args h λd h'=>h'=h/\d=n:=by
 refine⟨H.1,λw0 G M ρ w J t c s hr=> ?_⟩;obtain⟨k,l,m,N,L,C⟩:=c.freeze y
 let B:Base:=⟨w,k,λb=>b<w.heap.size,λ_ a=>a⟩
 have A:Sim B [] k (λ_=>none) Heap.emp w:=
  { below:=⟨rfl,rfl,rfl,zD _,λ_ _=>rfl,zD _⟩,imm:=C.imm,live:=λi I e=>(by cases e),apart:=λi j U V S T e=>(by cases e),gdef:=λb a=>(by cases a),old:=λb o v _ e=>e }
 have z:wI k (λ_=>none) (cR id cs args) J.toList:=n8 0 k ρ _ _ a (dp m N L _ _ hr);have x:Rg P B:=t.base c.below λb a=>zl (w0.kept b a) c.below.size;refine(H.2 B [] k _ w J x A (λ_ _=>rfl) z).mono λe R O=> ?_;obtain⟨v,M',K,d,h',rfl,k1,k2,k3,k4,k5,k6⟩:=O;have g:∀b,b<w.heap.size->R.heap[b]? =w.heap[b]? :=λb a=>k3.below.block b a;have E:∀b,w0.keep b->b<w.heap.size:=λb a=>zl (w0.kept b a) c.below.size;refine⟨v,M,ρ,d,h,rfl,MLe.refl _,RLe.refl _,?_,s,by rw[k6]at k5⊢;exact r _ _ _ k5 _ _,rfl,k6⟩
 refine { below:=⟨k3.below.os.trans c.below.os,k3.below.tape.trans c.below.tape,k3.below.output.trans c.below.output,zY c.below.size k3.below.size,λb a=>by rw[g b (E b a)];exact c.below.block b a,zY c.below.drawn k3.below.drawn⟩,imm:=λb o u e=>k3.imm b o u (k1 b o u (m b o u e)),live:=λi I y=> ?_,apart:=c.apart,gdef:=λb a=> ?_,old:=c.old }
 .obtain⟨Q,p,q,F⟩:=c.live i I y
  exact⟨Q,p,q,sI (g _ (nw F)) F⟩
 .obtain⟨p,q⟩:=c.gdef b a
  exact⟨p,by rw[g b (c.gdef_lt a)];exact q⟩
def GJ(b:Bool):∀M ρ v,rel M ρ (.bool b) v->∀M' a,rel M' a (.bool b) v:=λ_ _ _ h _ _=>h
end Go.V
