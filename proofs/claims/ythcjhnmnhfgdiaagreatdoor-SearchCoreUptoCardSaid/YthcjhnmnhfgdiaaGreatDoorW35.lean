/- Rules of the machine of abstract values, part 11. No condition. -/
import Derived.Test.YthcjhnmnhfgdiaaGreatDoorW34
set_option linter.all false
set_option maxHeartbeats 8000000
namespace Go.V
open List hiding max min map and or get le lt range extract
open Nat(zero_le le_refl le_trans lt_irrefl le_of_lt lt_of_lt_of_le lt_of_le_of_lt lt_succ_iff_lt_or_eq le_of_lt_succ)
open Go.Shelf Go.Proofs Go.Sort
open Go.RowKit (Below)
variable {α:Type}{id n i j:Nat}{g h0 h:Heap}{ts:List Trm}{d x y z:D}{S:Nat->Prop}{c:Cat}{e:Ex}{f:FuncId}{cap cs sc:List D}{fs:List Fac}{N:Int}
def dn [Inhabited α] (enc:α->Value) (w:World) (a off m:Nat) (c:Array α) (d:Array Go.Obj):∀b,b≠a->b<w.heap.size->(sortWorld enc w a off m c d).heap[b]? =w.heap[b]? :=λb f g=>by
 show((putRow enc (Go.Sort.ahead w m) a off c).heap++d)[b]? =_;have h:(putRow enc (Go.Sort.ahead w m) a off c).heap.size=w.heap.size:=by simp[putRow,mapBlock,Go.Sort.ahead]
 rw[Array.getElem?_append_left ow];show((Go.Sort.ahead w m).heap.modify a _)[b]? =_;rw[Array.getElem?_modify,iq (λe=>f e.symm)];rfl
section
variable {P:Program} {f cmp:FuncId} {β:Type} {dd:β->D} {xs:List β} {id:Nat} {pre post:List D} {h:Heap} {cf:β->β->Int}
abbrev Z2 (dd:β->D) (xs:List β) (M:Imm) (ρ:Ren):= {p:β×Value // p.1∈xs/\rel M ρ (dd p.1) p.2/\(dd p.1).flat=true}
theorem zA.of_sort1 (h0:xs≠[]) (he:uL P f=true) (ba:∀args w,(callFunc cmp args).run P w= .ok (.enter cmp args) w)
  (O:h.at' id=some (.row (pre++xs.map dd++post))) (hO:SWO (ltOf cf)) (a2:xs.length<4611686018427387904)
  (ai:∀x∈xs,∀y∈xs,∀H,zA P cmp [dd x,dd y] H λr H'=>H'=H/\r= .int .i64 (cf x y))
  (a3:∀ (α:Type) [Inhabited α] (enc:α->Value),OneCell enc->∀ (cf:α->α->Int),SWO (ltOf cf)->∀ (g:Nat) (cb:Array Value) (t off cap:Nat) (d:Array α) (w:World),
   (∀args w,(callFunc g args).run P w= .ok (.enter g args) w)->CmpLays1 P g cb enc cf t off d.size w->Go.Sort.Holds enc w t off d->t<w.heap.size->d.size<4611686018427387904->
   Calls P f #[.slice (some ⟨t,off,none⟩) d.size cap, .func (.func g) #[] cb] w λe w'=>e= .returned (.tuple #[])/\∃u n Z,PermIn 0 d.size d u/\SortedIn (ltOf cf) 0 d.size u/\w'=sortWorld enc w t off n u Z):
  zA P f [.rs id 1 pre.length xs.length, .fn (.func cmp) [] []] h λr h'=>r= .tuple []/\∃ys:List β,ys.Perm xs/\ys.Pairwise (λa b=>¬cf b a<0)/\h'=h.set id (.row (pre++ys.map dd++post)):=by
 refine⟨he,λw0 G M ρ w va L Q a1 hr=> ?_⟩;simp only[yF] at hr;obtain⟨v,cl,b3,W,v2,cm,rfl,a6,rfl⟩:=hr;simp only[rel,yF] at W a6;obtain⟨_,b6,l,cap,o,hl,rfl,⟨b7,b8⟩,ch,ho⟩:=W;obtain⟨_,fa,fc,rfl,bk,bo⟩:=a6;have au:fa= #[]:=Array.ext' (by simpa using bk);have a0:fc= #[]:=Array.ext' (by simpa using bo);subst au a0;have b4:0<xs.length:=length_pos_iff.2 h0;have ho:o=pre.length:=by
  rcases ho with hz|ho
  ·omega
  ·exact ho
 subst ho;have a7:va= #[.slice (some ⟨l.blk,pre.length,none⟩) xs.length cap, .func (.func cmp) #[] #[]]:=Array.ext' (by simpa using b3);subst a7;obtain⟨l',h1,D,hM,c,e,hw,cg,b9,K⟩:=Q.live id _ O;rw[hl] at h1;cases h1;have ag:l.blk<w.heap.size:=(Array.getElem?_eq_some_iff.1 hw).1;have a9:∀i (s:i<xs.length),(pre++xs.map dd++post)[pre.length+i]? =some (dd xs[i]):=λi s=>by
  rw[append_assoc,getElem?_append_right ow,Nat.add_sub_cancel_left,getElem?_append_left (by simpa using s),getElem?_map,getElem?_eq_getElem s];rfl
 have F:∀i (s:i<xs.length),∃v,c[pre.length+i]? =some v/\rel M ρ (dd xs[i]) v/\(dd xs[i]).flat=true:=λi s=>by
  obtain⟨h1,v,X,h3⟩:=K _ _ (a9 i s);exact⟨v,X,h3,h1⟩
 let mk:_root_.Fin xs.length->Z2 dd xs M ρ:=λi=>⟨(xs[i.1],(F i.1 i.2).choose),getElem_mem i.2,(F i.1 i.2).choose_spec.2⟩
 letI:Inhabited (Z2 dd xs M ρ):=⟨mk ⟨0,b4⟩⟩
 let enc:Z2 dd xs M ρ->Value:=λp=>p.1.2
 have S:OneCell enc:=λp=>jU p.2.2.1 p.2.2.2
 let d:Array (Z2 dd xs M ρ):=Array.ofFn mk
 have R:d.size=xs.length:=by simp[d]
 have bb:∀i (s:i<xs.length),d[i]! =mk ⟨i,s⟩:=λi s=>by rw[getElem!_pos d i (by rw[R];exact s)];simp[d]
 have ak:d.toList.map (λp=>p.1.1)=xs:=by
  apply ext_getElem?;intro i;rw[getElem?_map,Array.getElem?_toList];by_cases s:i<xs.length
  ·rw[Array.getElem?_eq_getElem (by rw[R];exact s),getElem?_eq_getElem s,Option.map_some];simp[d,mk]
  ·rw[Array.getElem?_eq_none ow,getElem?_eq_none ow];rfl
 have a8:SWO (ltOf λp q:Z2 dd xs M ρ=>cf p.1.1 q.1.1):=⟨λx=>hO.irrefl _,λx y z=>hO.trans _ _ _,λx y z=>hO.ntrans _ _ _⟩;have N:Go.Sort.Holds enc w l.blk pre.length d:=by
  intro j hj;rw[R] at hj;refine⟨?_,by simp[World.frozen?,hw]⟩;rw[bb _ hj];have W:=(F j hj).choose_spec.1;simp only[World.cell?,hw,Option.isSome_none,Bool.false_eq_true,if_false];exact W
 have U:CmpLays1 P cmp #[] enc (λp q=>cf p.1.1 q.1.1) l.blk pre.length d.size w:=by
  intro m Z J cc x y;have B:=dn enc w l.blk pre.length m J Z;have T:PO P (sortWorld enc w l.blk pre.length m J Z):=⟨λg Y=>by
   have X:=L.here Q.below Y;unfold Lib.TabIs World.var? at X⊢;rw[Y] at X⊢;simp only[Option.bind_some] at X⊢;have C:=(L.1 g Y).1;rw[B g (λq=>D (q▸C)) (lt_of_lt_of_le (w0.kept g C) Q.below.size)];exact X,λg Y=>by
   obtain⟨m,hm⟩:=L.max Q.below Y;have C:=(L.2 g Y).1;exact⟨m,(World.cell?_of_block (w:=w) (B g (λq=>D (q▸C)) (lt_of_lt_of_le (w0.kept g C) Q.below.size))).trans hm⟩⟩
  refine zA.stays (λH=>(ai x.1.1 x.2.1 y.1.1 y.2.1 H).mono λr H' hq=>hq.2) (λM ρ v W=>by simp only[rel] at W;exact W.1) (M:=M) (ρ:=ρ) (n:=h.next) (λb o v hb=> ?_) T a1 ?_
  ·have b2:b≠l.blk:=λq=>by subst q;rw[hM o] at hb;cases hb
   rw[<-Q.imm b o v hb];exact World.cell?_of_block (w:=w) (B b b2 (Q.lt hb))
  ·show yF M ρ _ [_,_];simp only[yF];exact⟨_,_,rfl,x.2.2.1,_,_,rfl,y.2.2.1,rfl⟩
 have A:=a3 (Z2 dd xs M ρ) enc S (λp q=>cf p.1.1 q.1.1) a8 cmp #[] l.blk pre.length cap d w ba U N ag (by rw[R];exact a2);rw[R] at A;refine A.mono λe w' hq=> ?_;obtain⟨rfl,u,n,Z,k,E,rfl⟩:=hq;rw[<-R] at k;have a5:=PermIn.list k;have ca:u.size=xs.length:=by rw[k.1,R]
 have b5:(u.toList.map λp=>p.1.1).Perm xs:=by
  have q:=a5.map (λp=>p.1.1)
  rwa [ak] at q
 let I:Z2 dd xs M ρ->BU:=λp=>⟨(dd p.1.1,p.1.2),p.2.2.2⟩
 have a4:∀J:List (Z2 dd xs M ρ),(J.map I).map (λq=>q.1.1)=(J.map λp=>p.1.1).map dd:=λJ=>by rw[map_map,map_map];rfl
 have b1:∀J:List (Z2 dd xs M ρ),(J.map I).map (λq=>q.1.2)=J.map enc:=λJ=>by rw[map_map];rfl
 have V:h.at' id=some (.row (pre++(d.toList.map I).map (λq=>q.1.1)++post)):=by rw[a4,ak];exact O
 have hS:=(Q.ahead n).putRow (α:=BU) (enc:=λq=>q.1.2) (dd:=λq=>q.1.1) (λq=>q.2) V hl (ys:=u.toList.map I) (a5.map I).length_eq (λq hq=>by
  obtain⟨p,hp,rfl⟩:=mem_map.1 hq;exact p.2.2.1)
 have ad:=hS.grow Z;rw[jI,map_toArray,b1,a4,<-map_toArray,Array.toArray_toList,<-jI] at ad;refine⟨.tuple #[],M,ρ, .tuple [],_,rfl,MLe.refl _,RLe.refl _,ad,a1,by simp only[rel,yF];exact⟨#[],rfl,rfl⟩,rfl,u.toList.map (λp=>p.1.1),b5,?_,rfl⟩;rw[pairwise_map,pairwise_iff_getElem];intro i j s hj bs;have bx:j<u.size:=by simpa using hj
 have:=E i j (zero_le _) bs ow;rw[getElem!_pos u j bx,getElem!_pos u i ow] at this;simpa [ltOf] using this
end
open Go.Proofs.Tryz
open Go.Proofs Go.Shelf Go.Sort
set_option maxRecDepth 100000
def jJ:QC qG where
 anti x y:=by unfold qG;(repeat' split)<;>omega
 trans x y z h1 h2:=by
  have e:∀a b:Int,qG a b<=0↔a<=b:=λa b=>by unfold qG;(repeat' split)<;>omega
  rw[e] at *;omega
def Lb (x y:Int) (h:qG x y=0):x=y:=by unfold qG at h;(repeat' split at h)<;>omega
theorem aO:∀a b:List Trm,sG a b=jv zS a b
 | [],[]=>rfl
 | [],_::_=>rfl
 |_::_,[]=>rfl
 |x::xs,y::ys=>by
  simp only[sG,jv,RG,aO xs ys];by_cases h:zS x y=0<;>simp[h]
def sZ (a b:List Trm):n7 a b=RG (qG a.length b.length) (jv zS a b):=by
 unfold n7 RG;simp only[orL,aO];split
 ·split
  ·rename_i q;exact q.symm
  ·rfl
 ·rfl
def dp:QC n7:=by
 have:=(jJ.key (γ:=List Trm) (λa=>(a.length:Int))).lex ox.list;exact⟨λx y=>by rw[sZ,sZ];exact this.anti x y,λx y z=>by rw[sZ,sZ,sZ];exact this.trans x y z⟩
def X1 (x y:List Trm) (h:n7 x y=0):x=y:=by
 rw[sZ,RG] at h;split at h
 ·exact Zz l8 _ _ h
 ·rename_i q;exact absurd h q
def Z3 (l:List (List Trm)):(zl (l.map mkA)).flatten=l.map λa=>(mkA a).d:=by rw[uo,List.map_map];rfl
variable {id:Nat}{h:Heap}{f:FuncId}
def Dd {l:List (List Trm)} (h0:l≠[]) (t:l.length<=1048576) (a:∀i∈l,i.length<=1048576) (b:g.at' id=some (.row (zl (l.map mkA)).flatten)):
  zA prog 238 [.rs id 1 0 l.length, .fn (.func 239) [] []] g λr h'=>r= .tuple []/\h'=g.set id (.row (zl ((srt n7 l).map mkA)).flatten):=by
 have:=zA.of_sort1 (P:=prog) (f:=238) (cmp:=239) (dd:=λi=>(mkA i).d) (xs:=l) (id:=id) (pre:=[]) (post:=[]) (h:=g) (cf:=n7) h0 kr (enters_of func239 kr rfl) (by simpa [Z3] using b) dp.swo ow
  (λx q y s H=>Xw (zZ.mk .no) (zZ.mk .no) (a x q) (a y s) H) (λα _ enc h1 cf k g cb c off cap d w o n j m e=>Any.slices_SortFunc Tryz.sortAlt enc h1 cf k g cb c off cap d w o n j m e)
 refine this.mono λr h' ⟨e1,ys,p,e,e2⟩=>⟨e1,?_⟩;rw[e2,RH dp X1 p e,Z3];simp
open Go.Proofs
def t6 (ts:List Trm):List Trm:=cpt zS (srt zS ts)
def oz (out:List (List Trm)) (a:List Trm):List (List Trm):=if(out.any λb=>ly a b)=true then out else out++ [a]
def px (l:List (List Trm)):Nat->List (List Trm)
 |0=>[]
 |n+1=>match l[n]? with
  |none=>px l n
  |some a=>oz (px l n) a
def wt (l:List (List Trm)):List (List Trm):=srt n7 (l.map t6)
def yi (l:List (List Trm)):List (List Trm):=px (wt l) (wt l).length
def RK (h:ts≠[]):t6 ts≠[]:=λe=>by
 have h1:0<(srt zS ts).length:=by rw[(qi ts).length_eq];exact length_pos_iff.2 h
 have:=Z0 (c:=zS) h1 _ (le_refl _) h1;rw[show qO zS (srt zS ts) (srt zS ts).length=t6 ts from rfl,e] at this
 exact absurd this (lt_irrefl _)
def X2 (a:List Trm):(t6 a).length<=a.length:=by
 have:=rY (c:=zS) (l:=srt zS a) (srt zS a).length;rw[(qi a).length_eq] at this;exact(by rw[<-(qi (c:=zS) a).length_eq];exact rY _)
def RL (h:ts≠[]) (a:ts.length<=4096):(mkA ts).Ok:=⟨zZ.mk .no,h,a⟩
theorem o5 {l:List (List Trm)} :∀n,∀x∈px l n,x∈l
 |0,x,h=>by cases h
 |n+1,x,h=>by
  rw[px] at h;split at h
  ·exact o5 n x h
  ·rename_i a e;unfold oz at h;split at h
   ·exact o5 n x h
   ·rcases mem_append.1 h with h|h
    ·exact o5 n x h
    ·cases mem_singleton.1 h;exact mem_of_getElem? e
theorem dq {l:List (List Trm)} :∀n,(px l n).length<=n
 |0=>le_refl _
 |n+1=>by
  have a:=dq (l:=l) n;rw[px];split
  ·omega
  ·unfold oz;split
   ·omega
   ·rw[length_append];simp only[length_cons,length_nil];omega
def X3 {l:List (List Trm)} {x:List Trm} (h:x∈yi l):∃y∈l,x=t6 y:=by
 have:=jG.1 (o5 _ x h);obtain⟨y,a,rfl⟩:=mem_map.1 this;exact⟨y,a,rfl⟩
theorem dw {l:List Alt} (hd:zZ 1 (zl l) d) (h0:l≠[]) (hl:l.length<=1048576) (J:∀a∈l,a.Ok) (g:Heap):
  zA prog 170 [d] g λr h'=>h'=g/\Fin 1 (zl ((yi (l.map Alt.ts)).map mkA)) r:=by
 refine xU kr λb6=>xS ?_;have b5:=qj hd;refine xP λQ hQ=> ?_;have b8:=Own.start (Ext.refl g) 1;refine xO mix func170 zFg rfl rfl ?_;simp only[f170,gJ]
 repeat' first|simp only[go_sem, *]|apply bc<;>intro w
 refine zD (λi fr h=>∃s,fr 10=d/\fr 11= .int .i64 (l.length:Int)/\fr 12= .int .i64 (i:Int)/\fr 3=s/\dZ g h 1 (zl (((l.take i).map λa=>t6 a.ts).map mkA)) s) l.length ow ?_ ?_ ?_
 ·have X:=dZ.start (Ext.refl g) 1;simp only[go_sem,true_and,and_true,Int.ofNat_zero];exact⟨_,rfl,X⟩
 ·rintro i fr h q e1 ew ⟨s,ad,ag,ai,f3,A⟩;have a1:=tM hd q;obtain⟨o1,o2,o3⟩:=J _ (getElem_mem q);have b3:(l.take (i+1)).map (λa=>t6 a.ts)=(l.take i).map (λa=>t6 a.ts)++ [t6 l[i].ts]:=by rw[take_succ_eq_append_getElem q,map_append];rfl
  have S:((l.take i).map λa=>t6 a.ts).length=i:=by rw[length_map,length_take];omega
  rw[b3];generalize l[i]=a at *
  generalize(l.take i).map (λa=>t6 a.ts)=pre at *
  obtain⟨k1,k2,k3⟩:=zJ o1;have a7:=λh=>LZ o1 o2 ow h;have B:=λ(H:Heap) (hr:H.at' h.next=some (.row (yX a.ts).flatten))=>Dc (id:=h.next) o2 ow hr;have bb:srt zS a.ts≠[]:=λe=>o2 (length_eq_zero_iff.1 (by rw[<-(qi (c:=zS) a.ts).length_eq,e];rfl));have bk:(srt zS a.ts).length=a.ts.length:=(qi a.ts).length_eq;have O:=λ(H:Heap) (hr:H.at' h.next=some (.row (yX (srt zS a.ts)).flatten))=>V6 (id:=h.next) bb ow hr;rw[bk] at O;have cb:D.sl 2 (yX (cpt zS (srt zS a.ts))) .no=(mkA (t6 a.ts)).d:=rfl
  repeat' first|simp only[go_sem, *]|apply bc<;>intro w|(refine zA.mono (a7 _) ?_;rintro r h ⟨rfl,rfl⟩)
  refine(B _ (zK _ _ _)).mono ?_;rintro r j ⟨rfl,rfl⟩
  repeat' first|simp only[go_sem, *]|apply bc<;>intro w
  refine(O _ (zC _ _ _)).mono ?_;rintro r j ⟨rfl,rfl⟩;have hE:Ext h (((h.new h.next (.row (yX a.ts).flatten)).set h.next (.row (yX (srt zS a.ts)).flatten)).del h.next):=(((Ext.refl h).new (le_refl _) _).set (le_refl _) _).del (le_refl _);generalize((h.new h.next (.row (yX a.ts).flatten)).set h.next (.row (yX (srt zS a.ts)).flatten)).del h.next=H at *
  have b1:=A.ext hE;obtain⟨d',G,a5,bx,b4⟩:=b1.app (P:=prog) (ys:=zl [mkA (t6 a.ts)]) (tk:= .full) yp uH yu ow (λcs=>dc underlying128) (wH _) (wH _) (by simp[zl]) (by rw[zY,length_map,S,qW];unfold lim;simp[zl];omega) (by rw[zY,length_map,S];unfold lim;simp[zl];omega);have U:=mX (mkA (t6 a.ts)).d H.next H rfl rfl rfl;have C:zl [mkA (t6 a.ts)]= [[(mkA (t6 a.ts)).d]]:=rfl;rw[C] at a5 b4;have m:dZ g G 1 (zl ((pre++ [t6 a.ts]).map mkA)) d':=by
   rw[map_append]
   have:zl (pre.map mkA++List.map mkA [t6 a.ts])=zl (pre.map mkA)++zl [mkA (t6 a.ts)]:=by simp[zl]
   rw[this];exact bx
  repeat' first|simp only[go_sem, *]|apply bc<;>intro w
  exact⟨_,rfl,m⟩
 ·rintro fr h e1 ⟨s,ad,ag,ai,f3,A⟩;rw[take_length] at A;have hS:srt n7 (l.map λa=>t6 a.ts)=wt (l.map Alt.ts):=by rw[wt,map_map];rfl
  have a4:(wt (l.map Alt.ts)).length=l.length:=by rw[<-hS,(qi _).length_eq,length_map]
  have a9:l.map (λa=>t6 a.ts)≠[]:=by simp[h0]
  have F:(l.map λa=>t6 a.ts).length=l.length:=length_map ..;have v:∀M∈wt (l.map Alt.ts),M≠[]/\M.length<=4096:=λM h=>by
   rw[<-hS] at h;obtain⟨a,ha,rfl⟩:=mem_map.1 (jG.1 h);exact⟨RK (J a ha).ne,le_trans (X2 _) (J a ha).len⟩
  have a8:∀M∈l.map (λa=>t6 a.ts),M.length<=1048576:=λM h=>by
   have:=(v M (by rw[<-hS];exact jG.2 h)).2;omega
  obtain⟨Z,w⟩:=A;rcases w with⟨_,e⟩ | ⟨id,rfl,W,hid,R,_⟩
  ·exact absurd (by simpa [zl] using e) h0
  have C:(zl ((l.map λa=>t6 a.ts).map mkA)).length=l.length:=by rw[zY,length_map,F]
  rw[C] at f3;have B:=Dd a9 ow a8 W;have T:yi (l.map Alt.ts)=px (wt (l.map Alt.ts)) (wt (l.map Alt.ts)).length:=rfl;rw[T] at hQ;rw[F,hS] at B;generalize wt (l.map Alt.ts)=L at *
  have E0:Ext g (h.set id (.row (zl (L.map mkA)).flatten)):=Z.set hid _;have a3:∀r h',Ext g h'->below g.next (zj r)->Fin 1 (zl ((px L L.length).map mkA)) (zj r)->Q r h':=λr h' q1 q2 q3=>hQ r h' ⟨q1,q2,q3⟩
  repeat' first|simp only[go_sem, *]|apply bc<;>intro w|(refine zA.mono B ?_;rintro r h ⟨rfl,rfl⟩)
  have r0:(h.set id (.row (zl (L.map mkA)).flatten)).at' id=some (.row (zl (L.map mkA)).flatten):=zC _ _ _;have E:id<(h.set id (.row (zl (L.map mkA)).flatten)).next:=R;generalize h.set id (.row (zl (L.map mkA)).flatten)=H at *
  have cf:=λ(h:Heap)=>tz (P:=prog) (t:=30) (sz:=1) (id:=id) (off:=0) (len:=l.length) (h:=h) underlying30
  repeat' first|simp only[go_sem, *]|apply bc<;>intro w
  refine zD (λi fr h=>∃o,fr 28= .rs id 1 0 l.length/\fr 29= .int .i64 (l.length:Int)/\fr 30= .int .i64 (i:Int)/\fr 7=o/\Own H h 1 (zl ((px L i).map mkA)) o) l.length ow ?_ ?_ ?_
  ·have X:=Own.start (Ext.refl H) 1;simp only[go_sem,true_and,and_true,Int.ofNat_zero];exact⟨_,rfl,X⟩
  ·rintro i fr j q ec ew ⟨o,ak,a0,a2,f7,A⟩;have u:i<L.length:=ow;have a1:=yB (P:=prog) (sz:=1) (id:=id) yp yu (k:= .i64) q;have b2:j.at' id=some (.row (zl (L.map mkA)).flatten):=by rw[A.1.2 _ E];exact r0
   have b9:(zl (L.map mkA)).flatten[i*1]? =some (mkA L[i]).d:=by rw[Z3,Nat.mul_one,getElem?_map,getElem?_eq_getElem u];rfl
   obtain⟨m1,m2⟩:=v L[i] (getElem_mem u);have ba:px L (i+1)=oz (px L i) L[i]:=by rw[px,getElem?_eq_getElem u]
   have Y:∀x∈px L i,x≠[]/\x.length<=4096:=λx Z=>v x (o5 i x Z);have F:=dq (l:=L) i;rw[ba];generalize L[i]=a at *
   generalize px L i=out at *
   have cc:j.next<(j.new j.next (.row [(mkA a).d])).next:=by rw[zF];omega
   have V:(j.new j.next (.row [(mkA a).d])).at' j.next=some (.row [(mkA a).d]):=zK _ _ _;have b7:zQ prog 128 (.ptr j.next 0) (mkA a).d (j.new j.next (.row [.nilsl]))=some (j.new j.next (.row [(mkA a).d])):=by
    rw[zT (zK _ _ _) yu (by simp) rfl rfl,mP];rfl
   have I:=A.ext ((Ext.refl j).new (le_refl _) (.row [(mkA a).d]));have n:=oy (l:=out.map mkA) (d:=o) I.isSl (by rw[length_map];omega) (f:=240) (cap:=[.ptr j.next 0]) (p:=λb=>ly a b.ts) (g:=j.new j.next (.row [(mkA a).d])) (λs X=>by
    obtain⟨y,hy,rfl⟩:=mem_map.1 X;obtain⟨n1,n2⟩:=Y y hy;exact⟨(RL n1 n2).sl,zBz (RL m1 m2) (RL n1 n2) V⟩)
   have N:(out.map mkA).any (λb=>ly a b.ts)=out.any λb=>ly a b:=by rw[any_map];rfl
   rw[N] at n;have a6:(mkA a).d.cells= [(mkA a).d]/\(mkA a).d.notTuple=true:=⟨rfl,rfl⟩;obtain⟨k1,k2⟩:=a6;cases hb:(out.any λb=>ly a b) with
   |true=>
    have K:oz out a=out:=ip hb;rw[K];rw[hb] at n;generalize j.new j.next (.row [(mkA a).d])=h3 at *
    repeat' first|simp only[go_sem, *]|apply bc<;>intro w|(refine zA.mono n ?_;rintro r h ⟨rfl,rfl⟩)
    exact⟨_,rfl,I⟩
   |false=>
    have K:oz out a=out++ [a]:=iq (by rw[hb];exact Bool.false_ne_true);rw[K];rw[hb] at n;have U:=λnid h=>mX (mkA a).d nid h rfl rfl rfl;have ca:sh prog 128 (.ptr j.next 0) (j.new j.next (.row [(mkA a).d]))=some (mkA a).d:=by
     simp only[go_sem,V]
    generalize j.new j.next (.row [(mkA a).d])=h3 at *
    repeat' first|simp only[go_sem, *]|apply bc<;>intro w|(refine zA.mono n ?_;rintro r h ⟨rfl,rfl⟩)
    refine I.appH (ys:=zl [mkA a]) yp uH yu ow (wH _) (by simp[zl]) (by rw[zY,length_map,qW];unfold lim;simp[zl];omega) (by rw[zY,length_map];unfold lim;simp[zl];omega) λd' h' bo=> ?_;have bs:Own H h' 1 (zl ((out++ [a]).map mkA)) d':=by
     rw[map_append]
     have:zl (out.map mkA++List.map mkA [a])=zl (out.map mkA)++zl [mkA a]:=by simp[zl]
     rw[this];exact bo
    repeat' first|simp only[go_sem, *]|apply bc<;>intro w
    exact⟨_,rfl,bs⟩
  ·rintro fr j ec ⟨o,ak,a0,a2,f7,A⟩;have m:=A.2.1.fin (λx Z=>by
    obtain⟨y,hy,rfl⟩:=mem_map.1 Z;obtain⟨z,_,rfl⟩:=mem_map.1 hy;exact l9 z)
   have hq:=a3 o j (E0.trans A.1) (zu (zero_le _) _ m.1) (by rw[a4];exact m.2);exact au
noncomputable def De:Cfg:=⟨λt=>List.contains (α:=Nat) [22] t,λi=>(bd (α:=List (Nat×Fl)) [] i).getD []⟩
def zI1 (t:Tmp):De.mu t=List.contains (α:=Nat) [22] t:=(rfl)
def zI2:zb prog De f302=true:=by kernel_rfl
noncomputable def Df:Cfg:=⟨λt=>List.contains (α:=Nat) [33] t,λi=>(bd (α:=List (Nat×Fl)) [] i).getD []⟩
def FH (t:Tmp):Df.mu t=List.contains (α:=Nat) [33] t:=(rfl)
def zI3:zb prog Df f244=true:=by kernel_rfl
def Dg (h0:0<n) (k:n<=1048576) (h:Heap):
  zA prog 302 [.nilsl, .int .i64 n] h λr h'=>∃xs:List D,xs.length=n*2/\r= .rs h.next 2 0 0/\h'=h.new h.next (.row xs):=by
 have e1:decide ((n:Int)<0)=false:=decide_eq_false ow;have e2:IntKind.i64.wrap (0-0)=0:=rfl;have e3:IntKind.i64.wrap ((n:Int)-0)=n:=by rw[zt ow ow];omega
 have c:decide ((n:Int)>0)=true:=decide_eq_true ow;have d:yk prog 128 .nilsl none (some (.int .i64 0)) none h=some .nilsl:=by
  simp[yk,lQ,oH,yg,qB,wT,bG,YX]
 have e:sJ prog true h.next 128 3 .nilsl (.int .i64 n) h=some (.rs h.next 2 0 n,h.new h.next (.row (rQ n [.str [], .str []]))):=by
  have j:n*32<=lim:=by unfold lim;omega
  have a:n<=lim:=by unfold lim;omega
  simp only[sJ,underlying3,yg,wA,qB,pK,Int.toNat_natCast,D.notTuple,D.cells];rw[ip (by simp[j,a,h0]),uh underlying130]
 have f:yk prog 128 (.rs h.next 2 0 n) none (some (.int .i64 0)) none (h.new h.next (.row (rQ n [.str [], .str []])))=some (.rs h.next 2 0 0):=
  th (n:=0) lQ yg qB ow
 have i:∀h:Heap,tu prog 128 .nilsl h=some (.int .i64 0):=λh=>yc (sz:=2) zZ.nil underlying128;refine xO mix func302 zI2 rfl rfl ?_;simp only[f302,gJ];simp only[go_sem,zI1,e1,e2,e3,c,IL underlying128,i,d,e,f,Option.map_none,Option.map_some,List.length_nil,Int.natCast_zero,Int.ofNat_zero];refine⟨rQ n [.str [], .str []],?_,rfl⟩
 have:∀m,(rQ m [D.str [],D.str []]).length=m*2:=λm=>by
  induction m with
  |zero=>rfl
  |succ m b=>
   change (List.replicate m [D.str [],D.str []]).flatten.length=_ at b;change (List.replicate (m+1) [D.str [],D.str []]).flatten.length=_;rw[List.replicate_succ,List.flatten_cons,List.length_append,b];simp;omega
 exact this n
def zB0 (h0 h:Heap) (l:List Trm) (d:D):Prop:=Ext h0 h/\∃id xs,d= .rs id 2 0 l.length/\h.at' id=some (.row xs)/\h0.next<=id/\id<h.next/\l.length*2<=xs.length/\xs.take (l.length*2)=(yX l).flatten
def Ld (l:List Trm):(yX l).flatten.length=l.length*2:=by rw[qF (uJ l),yT]
def Ii {l c:List Trm} {d g:D} (v:zB0 h0 h l d) (n:zZ 2 (yX c) g) (E:l.length<=1048576) (z:c.length<=1048576):
  ∃r h',zg prog true h.next 128 d g (qn d g h)=some (r,h')/\zB0 h0 h' (l++c) r:=by
 obtain⟨k,id,xs,rfl,hid,w,B,A,q⟩:=v;have u:(l.length+c.length)*32<=lim:=by unfold lim;omega
 have m:l.length+c.length<=lim:=by unfold lim;omega
 have C:∀a:Heap,Rl 2 g a=some (yX c).flatten:=λa=>by
  rcases n with⟨rfl,p⟩ | ⟨tk,rfl⟩
  ·have:c= []:=List.map_eq_nil_iff.1 p;subst this;rfl
  ·simp only[Rl,if_true]
 have f:(xs.take (l.length*2)).length=l.length*2:=by rw[List.length_take];omega
 have b:=Ld c;have key:∀a:Heap,a.at' id=some (.row (xs.take (l.length*2)))->zg prog true h.next 128 (.rs id 2 0 l.length) g a=some (.rs h.next 2 0 (l.length+c.length),(a.del id).new h.next (.row (xs.take (l.length*2)++(yX c).flatten))):=λa e=>by
  simp only[zg,yg,gU,qB,if_true,C,b,Nat.mul_div_cancel _ (show 0<2 by omega),qL,pK,Bool.true_and];rw[ip (by simp[u,m]),e];simp only[];rw[ip (by rw[f])]
 obtain⟨a,e1,e2,e3,t⟩:∃a,qn (.rs id 2 0 l.length) g h=a/\a.next=h.next/\(∀j,j≠id->a.at' j=h.at' j)/\a.at' id=some (.row (xs.take (l.length*2))):=by
  by_cases s:l.length*2<xs.length
  ·refine⟨h.set id (.row (xs.take (l.length*2))),?_,rfl,λj y=>by simp[Heap.set,y],zC _ _ _⟩;rcases n with⟨rfl,p⟩ | ⟨tk,rfl⟩ <;>simp[qn,hid,s]
  ·have q:xs.take (l.length*2)=xs:=List.take_of_length_le ow;refine⟨h,?_,rfl,λ_ _=>rfl,by rw[q];exact hid⟩;rcases n with⟨rfl,p⟩ | ⟨tk,rfl⟩ <;>simp[qn,hid,s]
 have o:Ext h0 a:=⟨by rw[e2];exact k.1,λi x=>by rw[e3 i ow];exact k.2 i x⟩;rw[e1,key a t];refine⟨_,_,rfl,(o.del w).new k.1 _,h.next,_,by rw[List.length_append],zK _ _ _,k.1,?_,?_,?_⟩
 ·have:(a.del id).next=a.next:=rfl;simp only[Heap.new,this,e2];omega
 ·rw[List.length_append,List.length_append,f,b];omega
 ·rw[q,Ie,List.take_of_length_le (by rw[List.length_append,List.length_append,Ld,b];omega)]
theorem Lf {a b:Alt} (Y:a.Ok) (Z:b.Ok) (g:Heap):
  zA prog 244 [.sl 1 [[a.d],[b.d]] .full] g λr h'=>h'=g/\r=(mkA (a.ts++b.ts)).d:=by
 obtain⟨P,Q,a3⟩:=Y;obtain⟨R,b2,b3⟩:=Z;have ak:0<a.ts.length:=List.length_pos_iff.2 Q;refine xU kr λai=> ?_
 suffices hh:zA prog 244 [.sl 1 [[a.d],[b.d]] .full] g λr h'=>zB0 g h' (a.ts++b.ts) r by
  refine zA.freezeD (hh.mono ?_);rintro r h' ⟨X,id,xs,rfl,hid,hg,q,ad,ht⟩;refine⟨id,xs,hid,X.del hg,?_⟩;rw[dm (xs:=yX (a.ts++b.ts)) (rest:=xs.drop ((a.ts++b.ts).length*2)) (uJ _) (yT _) (by rw[<-ht,List.take_append_drop])];exact⟨If _ _,rfl⟩
 obtain⟨M,o,p,u⟩:∃M:Nat->Nat,M 0=0/\M 1=a.ts.length/\M 2=a.ts.length+b.ts.length:=⟨λi=>if i=0 then 0 else if i=1 then a.ts.length else a.ts.length+b.ts.length,rfl,rfl,rfl⟩
 obtain⟨L,c,j,m⟩:∃L:Nat->List Trm,L 0= []/\L 1=a.ts/\L 2=a.ts++b.ts:=⟨λi=>if i=0 then [] else if i=1 then a.ts else a.ts++b.ts,rfl,rfl,rfl⟩
 obtain⟨k,e,f⟩:∃k:Nat->Alt,k 0=a/\k 1=b:=⟨λi=>if i=0 then a else b,rfl,rfl⟩
 have ag:∀h:Heap,tu prog 30 (.sl 1 [[a.d],[b.d]] .full) h=some (.int .i64 2):=λh=>yc (zZ.mk .full) underlying30;have A:∀i:Nat,i<2->zR prog 30 (.sl 1 [[a.d],[b.d]] .full) (.int .i64 (i:Int))=some (.iptr [(k i).d] 0)/\zZ 2 (yX (k i).ts) (k i).d/\M (i+1)=M i+(k i).ts.length/\L (i+1)=L i++(k i).ts/\(L i).length<=8192/\(k i).ts.length<=8192/\M i<=8192:=λi hi=>by
  rcases i with _|_|i
  ·refine⟨za (zZ.mk .full) yp yu (by rw[e];rfl),by rw[e];exact P,by rw[o,e,p];omega,by rw[c,j,e];rfl,by rw[c];simp,by rw[e];omega,by omega⟩
  ·refine⟨za (zZ.mk .full) yp yu (by rw[f];rfl),by rw[f];exact R,by rw[p,f,u],by rw[j,m,f],by rw[j];omega,by rw[f];omega,by show M 1<=8192;omega⟩
  ·omega
 clear e f;refine xO mix func244 zI3 rfl rfl ?_;simp only[f244,gJ]
 repeat' first|simp only[go_sem,FH, *]|apply bc<;>intro w
 refine zD (λi fr h=>fr 0= .sl 1 [[a.d],[b.d]] .full/\fr 9= .sl 1 [[a.d],[b.d]] .full/\fr 10= .int .i64 2/\fr 11= .int .i64 (i:Int)/\fr 3= .int .i64 ((M i:Nat):Int)/\h=g) 2 ow ?_ ?_ ?_
 ·simp only[go_sem,true_and,and_true,Int.ofNat_zero,FH,o]
 ·rintro i fr h q e1 S ⟨T,V,E,s,U,rfl⟩;obtain⟨x1,B,C,D,x5,x6,x7⟩:=A i q;have N:=yw B;have hw:IntKind.i64.wrap (((M i:Nat):Int)+(((k i).ts.length:Nat):Int))=((M (i+1):Nat):Int):=by rw[C,zt ow ow];omega
  have O:decide (((M (i+1):Nat):Int)<0)=false:=decide_eq_false ow;have e2:decide ((i:Int)<2)=true:=e1;clear C D A o p u
  repeat' first|simp only[go_sem,FH, *]|apply bc<;>intro w
 ·rintro fr h e1 ⟨T,V,E,s,U,rfl⟩;have e2:decide ((((2:Nat):Int))<2)=false:=rfl;have z:=Dg (n:=M 2) ow ow h;have J:fr 11= .int .i64 2:=s;clear e1 s o p u
  repeat' first|simp only[go_sem,FH, *]|apply bc<;>intro w
  refine z.mono ?_;rintro r W ⟨xs,au,rfl,rfl⟩;have y:zB0 h (h.new h.next (.row xs)) (L 0) (.rs h.next 2 0 0):=⟨(Ext.refl h).new (Nat.le_refl _) _,h.next,xs,by rw[c];rfl,zK _ _ _,Nat.le_refl _,by rw[zF];omega,by rw[c];simp,by rw[c];rfl⟩;generalize h.new h.next (.row xs)=W at *
  clear z
  repeat' first|simp only[go_sem,FH, *]|apply bc<;>intro w
  refine zD (λi fr I=>fr 25= .sl 1 [[a.d],[b.d]] .full/\fr 26= .int .i64 2/\fr 27= .int .i64 (i:Int)/\zB0 h I (L i) (fr 6)) 2 ow ?_ ?_ ?_
  ·simp only[go_sem,true_and,and_true,Int.ofNat_zero,FH];exact y
  ·rintro i l I q e1 S ⟨F,G,t,v⟩;obtain⟨d,H⟩:∃x,l 6=x:=⟨_,rfl⟩;rw[H] at v;obtain⟨x1,B,C,D,x5,x6,x7⟩:=A i q;obtain⟨d',h5,k1,k2⟩:=Ii v B ow ow;rw[<-D] at k2;have e2:decide ((i:Int)<2)=true:=e1;obtain⟨q1,q2,q3⟩:=zJ B;clear C D A c j m v y
   repeat' first|simp only[go_sem,FH, *]|apply bc<;>intro w
  ·rintro l I e1 ⟨F,G,t,v⟩;have e2:decide ((((2:Nat):Int))<2)=false:=rfl;have K:l 27= .int .i64 2:=t;rw[m] at v;obtain⟨d,H⟩:∃x,l 6=x:=⟨_,rfl⟩;rw[H] at v;clear e1 t A c j m
   repeat' first|simp only[go_sem,FH, *]|apply bc<;>intro w
def jw (a b:List Alt) (k:Nat):List Trm:=(a.getD (k/b.length) (mkA [])).ts++(b.getD (k%b.length) (mkA [])).ts
def n9 (a b:List Alt):List (List Trm):=(List.range (a.length*b.length)).map (jw a b)
def Lg {a b:List Alt} (d:i<a.length) (c:j<b.length):jw a b (i*b.length+j)=a[i].ts++b[j].ts:=by
 unfold jw;rw[show(i*b.length+j)/b.length=i by rw[Nat.mul_comm,Nat.mul_add_div ow,Nat.div_eq_of_lt c];rfl,show(i*b.length+j)%b.length=j by rw[Nat.mul_comm,Nat.mul_add_mod,Nat.mod_eq_of_lt c]];simp[d,c]
def aP (a b:List Alt):(n9 a b).length=a.length*b.length:=by simp[n9]
def Dh {a b:List Alt} (d:zZ 1 (zl a) x) (c:zZ 1 (zl b) y) (g:Heap):zA prog 172 [x,y] g λr h'=>h'=g/\r= .fn (.func 243) [] [.iptr [x] 0, .iptr [y] 0]:=by
 refine xO mix func172 zEE rfl rfl ?_;simp only[f172,gJ];rcases d with⟨rfl,_⟩ | ⟨_,rfl⟩
 ·rcases c with⟨rfl,_⟩ | ⟨_,rfl⟩
  ·exact au
  ·exact au
 ·rcases c with⟨rfl,_⟩ | ⟨_,rfl⟩
  ·exact au
  ·exact au
def Ij {a b:List Alt} (D:zZ 1 (zl a) x) (E:zZ 1 (zl b) y) (O:∀q∈a,q.Ok) (Q:∀q∈b,q.Ok) (a3:a.length<=4096) (a4:b.length<=4096) {Y:Nat->(Nat->Prop)->Heap->Prop} (F:Yld prog id (a.length*b.length) (λk=>[(mkA (jw a b k)).d]) Y λ_ _=>False) {w:Heap} (hY:Y 0 S w):
  zA prog 243 [.yld id, .iptr [x] 0, .iptr [y] 0] w λ_ h'=>∃S',But S w h'/\Y (a.length*b.length) S' h':=by
 have a0:=qj D;have a2:=qj E;obtain⟨x1,x2,_⟩:=zJ D;obtain⟨y1,y2,_⟩:=zJ E;refine xO mix func243 zE8 rfl rfl ?_;simp only[f243,gJ]
 repeat' first|simp only[go_sem, *]|apply bc<;>intro R
 refine zD (λi fr h'=>fr 0= .yld id/\fr 2= .iptr [y] 0/\fr 8=x/\fr 9= .int .i64 (a.length:Int)/\fr 10= .int .i64 (i:Int)/\∃S',(∀j,S' j->S j\/w.next<=j)/\But S w h'/\Y (i*b.length) S' h') a.length ow ?_ ?_ ?_
 ·have I:∃S',(∀j,S' j->S j\/w.next<=j)/\But S w w/\Y (0*b.length) S' w:=⟨S,λj C=> .inl C,But.refl S w,by rw[Nat.zero_mul];exact hY⟩;simp only[go_sem,true_and,and_true,Int.ofNat_zero];exact I
 ·rintro i fr h1 n e1 ew ⟨J,K,L,M,A,N⟩;have a1:=tM D n;have v:=O _ (List.getElem_mem n);have B:=λj (C:j<b.length)=>Lg n C;generalize a[i]=p at *
  obtain⟨T,p2,_⟩:=zJ v.sl
  repeat' first|simp only[go_sem, *]|apply bc<;>intro R
  refine yH (λj fr h'=>fr 0= .yld id/\fr 2= .iptr [y] 0/\fr 8=x/\fr 9= .int .i64 (a.length:Int)/\fr 10= .int .i64 (i:Int)/\fr 5=p.d/\fr 14=y/\fr 15= .int .i64 (b.length:Int)/\fr 16= .int .i64 (j:Int)/\∃S',(∀j,S' j->S j\/w.next<=j)/\But S w h'/\Y (i*b.length+j) S' h') b.length ?_ ?_
  ·simp only[go_sem,true_and,and_true,Int.ofNat_zero];exact⟨J,K,L,M,A,N⟩
  clear N;rintro j X m C ⟨g0,g2,g8,g9,Z,g5,ad,ag,ai,S',f,c,e⟩;by_cases l:j<b.length
  ·have e2:decide ((j:Int)<(b.length:Int))=true:=decide_eq_true ow;have W:IntKind.i64.wrap ((j:Int)+1)=((j+1:Nat):Int):=zy (by unfold lim;omega);have b1:=tM E l;have z:=Q _ (List.getElem_mem l);have s:=B j l;have hk:i*b.length+j<a.length*b.length:=by
    have:i*b.length+b.length<=a.length*b.length:=by rw[<-Nat.succ_mul];exact Nat.mul_le_mul_right _ n
    omega
   have t:=F.go (i*b.length+j) S' m hk e;simp only[s] at t;generalize b[j]=q at *
   obtain⟨U,q2,_⟩:=zJ z.sl;have G:=Lf v z m;have ak:∀nid:Nat,zI prog false nid 30 2 [(0,p.d),(1,q.d)] m=some (.sl 1 [[p.d],[q.d]] .full,m):=λnid=>by
    have:=dO (P:=prog) (nid:=nid) (h:=m) (x:=p.d) (y:=q.d) yp oT yu rfl rfl ow ow p2 (by rw[T];rfl) q2 (by rw[U];rfl);rw[T,U] at this;exact this
   have a5:(mkA (p.ts++q.ts)).d.notTuple=true:=rfl;clear v z B s F D E O Q
   repeat' first|simp only[go_sem, *]|apply bc<;>intro R|(refine zA.mono G ?_;rintro r h ⟨hq,rfl⟩)
   subst hq;refine t.mono ?_;rintro r h3 ⟨V,k1,k2,k3⟩;rcases k3 with⟨rfl,k3⟩ | ⟨rfl,k3⟩
   ·have o:∃S',(∀j,S' j->S j\/w.next<=j)/\But S w h3/\Y (i*b.length+(j+1)) S' h3:=⟨V,λi' H=>by
     rcases k1 i' H with q|q
     ·exact f _ q
     ·exact .inr (by have:=c.1;omega),c.trans k2 f,k3⟩
    clear f c e k1 k2 k3 t;exact au
   ·exact k3.elim
  ·have e2:decide ((j:Int)<(b.length:Int))=false:=decide_eq_false ow;have u:j=b.length:=ow;have o:∃S',(∀j,S' j->S j\/w.next<=j)/\But S w m/\Y ((i+1)*b.length) S' m:=⟨S',f,c,by rw[Nat.succ_mul,<-u];rw[u] at e⊢;exact e⟩;clear f c e F u;exact au
 ·rintro fr m e1 ⟨J,K,L,M,A,S',f,c,e⟩;have o:∃S',But S w m/\Y (a.length*b.length) S' m:=⟨S',c,e⟩;clear f c e F;exact au
def RM (l:List (List Trm)):∀c∈zl (l.map mkA),yj c:=λc a=>by
 obtain⟨y,b,rfl⟩:=List.mem_map.1 a;obtain⟨z,_,rfl⟩:=List.mem_map.1 b;exact l9 z
theorem X4 {a b:List Alt} (hx:zZ 1 (zl a) x) (hy:zZ 1 (zl b) y) (ha:∀q∈a,q.Ok) (hb:∀q∈b,q.Ok) (O:a.length<=256) (R:b.length<=256) (g:Heap):
  zA prog 242 [.nilsl, .fn (.func 243) [] [.iptr [x] 0, .iptr [y] 0]] g λr h'=>h'=g/\Fin 1 (zl ((n9 a b).map mkA)) r:=by
 refine xU kr λad=>xS ?_;refine xP λQ hQ=> ?_;have I:(n9 a b).length=a.length*b.length:=aP a b;have hm:a.length*b.length<=65536:=Nat.le_trans (Nat.mul_le_mul O R) ow;obtain⟨n,o⟩:∃n,zl ((n9 a b).map mkA)=n:=⟨_,rfl⟩;have X:n.length=a.length*b.length:=by rw[<-o,zY,List.length_map,I]
 have W:∀k,k<a.length*b.length->n[k]? =some [(mkA (jw a b k)).d]:=λk N=>by
  rw[<-o];simp[zl,n9,N]
 have V:∀c∈n,yj c:=by rw[<-o];exact RM _
 rw[o] at hQ;refine xO mix func242 zEi rfl rfl ?_;simp only[f242,gJ];simp only[go_sem, *];simp only[zF];generalize H:LRec.mk _ _ _ _ _ _ _=L;have yl:Yld prog (g.next+1) (a.length*b.length) (λk=>[(mkA (jw a b k)).d]) (BM g.next 1 L n) (λ_ _=>False):=by
  refine⟨λk S h y=>y.here,λk S h h' y hn N=>y.loc hn N,λS h hz=>hz.elim,λS h h' hz=>hz.elim,λi S h3 hi Z=> ?_⟩;have hc:=W i hi;generalize U:(mkA (jw a b i)).d=m at *
  have T:m.cells= [m]/\m.notTuple=true/\m.flat=true:=by rw[<-U];exact⟨rfl,rfl,rfl⟩
  obtain⟨m1,m2,m3⟩:=T;have v:=λnid h=>mX m nid h m1 m2 m3;obtain⟨g1,t,d,G,u,s⟩:=Z;subst H;refine yt.round (g:=TL) mix t rfl kr kr kr ?_;simp only[go_sem];refine⟨t,?_⟩;generalize hB:LRec.mk .busy _ _ _ _ _ _=B;generalize f:Heap.set h3 (g.next+1) (.loop B)=h5;have C:h5.at' g.next=some (.row [d]):=by rw[<-f,zE ow];exact G
  have a3:h5.at' (g.next+1)=some (.loop B):=by rw[<-f];simp[Heap.set]
  have a4:h5.next=h3.next:=by rw[<-f,zU]
  have D:wg h5 1 (n.take i) d:=u.loc ow λj l=>by
   have:=u.tok l;rw[<-f,zE (λe=>by subst e;rw[t] at this;cases this.2)]
  simp only[go_sem,C,v];have A:(n.take i).length=i:=by rw[List.length_take];omega
  refine D.app2 yp uH yu ow (by simp) (by simp) (by rw[A,qW];unfold lim;simp;omega) (by rw[A];unfold lim;simp;omega) ?_;intro F h6 b1 b2 E b4 b5 b6;have c1:h6.at' g.next=some (.row [d]):=by
   rw[E _ ow λz=> ?_]
   ·exact C
   ·have:=(D.tok z).2;rw[C] at this;cases this
  have Y:=zT (P:=prog) (off:=0) c1 lM (by simp) b5 b6;simp only[go_sem,Y,List.set_cons_zero];have c2:(h6.set g.next (.row [F])).at' (g.next+1)=some (.loop B):=by
   rw[zE ow,E _ ow λz=> ?_]
   ·exact a3
   ·have:=(D.tok z).2;rw[a3] at this;cases this
  refine wG c2 ⟨λj=>j=g.next\/j=g.next+1\/wh F j,λj l=> ?_,⟨by simp only[go_sem];omega,λj l J=> ?_⟩, .inl ⟨rfl,by simp only[go_sem];omega,?_,F,?_,?_,λj=>Iff.rfl⟩⟩
  ·rcases l with rfl|rfl|l
   ·exact .inl ((s _).2 (.inl rfl))
   ·exact .inl ((s _).2 (.inr (.inl rfl)))
   ·exact .inr (by have:=b4 j l;omega)
  ·have n1:j≠g.next:=λe=>J ((s j).2 (.inl e));have n2:j≠g.next+1:=λe=>J ((s j).2 (.inr (.inl e)));rw[zE n2,zE n1,E j ow (λz=>J ((s j).2 (.inr (.inr z)))),<-f,zE n2]
  ·rw[zC,<-hB]
  ·rw[zE ow,zC]
  ·have:n.take (i+1)=n.take i++ [[m]]:=by rw[List.take_add_one,hc];rfl
   rw[this];refine b1.loc (Nat.le_refl _) λj l=> ?_;have:=b4 j l;rw[zE ow,zE ow]
 refine(Ij hx hy ha hb ow ow yl (S:=λi=>i=g.next\/i=g.next+1) (w:=(g.new g.next (.row [.nilsl])).new (g.next+1) (.loop L)) ?_).mono ?_
 ·refine⟨?_,zK _ _ _, .nilsl,by rw[zG ow,zK], .inl ⟨rfl,rfl⟩,λj=>by simp[wh]⟩;rw[zp _ (by rw[zF];exact Nat.le_refl _)];omega
 rintro r h2 ⟨S',M,K⟩;obtain⟨g1,t,d,G,u,s⟩:=K;rw[<-X,List.take_length] at u;refine⟨L,t,?_,?_⟩
 ·rw[<-H];intro e;cases e
 have hp:L.pending=none:=by rw[<-H]
 rw[hp,tG];have k1:(h2.del (g.next+1)).at' g.next=some (.row [d]):=by rw[yK ow];exact G
 have p:=u.fin V;have hq:=hQ d (h2.del (g.next+1)) ⟨Ext.del (Ext.of_but (((Ext.refl g).new (Nat.le_refl _) _).new ow _) M λj l=>by rcases l with rfl|rfl<;>omega) ow,zu (Nat.zero_le _) _ p.1,p.2⟩;exact au
def Qe {a b:List Alt} (k:zZ 1 (zl a) x) (l:zZ 1 (zl b) y) (f:∀q∈a,q.Ok) (i:∀q∈b,q.Ok) (c:a.length<=256) (d:b.length<=256) (g:Heap):
  zA prog 171 [.fn (.func 243) [] [.iptr [x] 0, .iptr [y] 0]] g λr h'=>h'=g/\Fin 1 (zl ((n9 a b).map mkA)) r:=by
 have h1:=X4 k l f i c d;refine xP λQ e=> ?_;refine xO mix func171 zF3 rfl rfl ?_;simp only[f171,gJ];simp only[go_sem, *];refine(h1 _).mono ?_;rintro r h ⟨j,hf⟩;subst j;have:=e r h ⟨rfl,hf⟩;exact au
def X5 (l:List (List Trm)):D:= .tuple (if l.length>64 then [.nilsl, .int .i64 10] else [.sl 1 (zl (l.map mkA)) .no, .int .i64 0])
def V7 {l:List (List Trm)} (e:l.length<=1048576) (g:Heap):
  zA prog 169 [.sl 1 (zl (l.map mkA)) .no] g λr h'=>h'=g/\r=X5 l:=by
 have a:=qj (l:=l.map mkA) (zZ.mk .no);rw[List.length_map] at a;refine xP λQ d=> ?_;have b:=d (X5 l) g ⟨rfl,rfl⟩;unfold X5 at b;refine xO mix func169 zFN rfl rfl ?_;simp only[f169,gJ];by_cases c:l.length>64
 ·rw[ip c] at b;have e1:decide ((l.length:Int)>64)=true:=decide_eq_true ow;exact au
 ·rw[iq c] at b;have e1:decide ((l.length:Int)>64)=false:=decide_eq_false ow;exact au
def dx (l:List Lic):∀x∈pn l,x.length=4:=λx a=>by
 obtain⟨y,_,rfl⟩:=mem_map.1 a;rfl
def Il (x y:Lic) (g:Heap):zA prog 234 [.agg x.cells, .agg y.cells] g λr h'=>h'=g/\r= .int .i64 (qG x.ver y.ver):=by
 have h1:=dP x.ver y.ver;refine xO mix func234 zF8 rfl rfl ?_;simp only[f234,gJ];simp only[Lic.cells]
 repeat' first|simp only[go_sem, *]|apply bc<;>intro a|(refine zA.mono (h1 _) ?_;rintro r h ⟨rfl,rfl⟩)
def Di {l:List Lic} (h0:l≠[]) (s:l.length<=1048576) (a:g.at' id=some (.row (pn l).flatten)):
  zA prog 233 [.rs id 4 0 l.length, .fn (.func 234) [] []] g λr h'=>r= .tuple []/\∃ys:List Lic,ys.Perm l/\h'=g.set id (.row (pn ys).flatten):=by
 have:=zA.of_sortK (P:=prog) (f:=233) (cmp:=234) (k:=4) (cells:=Lic.cells) (xs:=l) (id:=id) (pre:=[]) (post:=[]) (h:=g) (cf:=λx y=>qG x.ver y.ver) (mid:=[]) (midV:=[]) (λM ρ vs h=>by simpa [yF] using h) h0 ow (λ_ _=>rfl) kr (enters_of func234 kr rfl) (by simpa [pn] using a) (jJ.key Lic.ver).swo ow
  (λx _ y _ H=>Il x y H) (λα _ enc h1 e cf j g cb b off cap d w o n i m c q=>AnyQ.slices_SortFunc Tryz.sortLic 4 (isAgg108) (sizeOf108) enc h1 e cf j g cb b off cap d w o n i m c)
 refine this.mono λr h' ⟨e1,ys,p,c,e2⟩=>⟨e1,ys,p,?_⟩;rw[e2];simp[pn]
def uq (x y:Lic):Bool:=y.fam==x.fam&&decide (y.ver>=x.ver)
def o6 (c:Cat) (x:Lic):List (List UInt8):=(c.ls.filter (uq x)).map Lic.name
def X6 {k:List UInt8} {x:Lic} (h:rH c k=some x):x∈c.ls:=by
 unfold rH at h;split at h
 ·cases h
 ·split at h
  ·exact mem_of_getElem? h
  ·cases h
def X7 {x:Lic} (h:x∈c.ls):c.ls.filter (uq x)≠[]:=λe=>by
 have:x∈c.ls.filter (uq x):=mem_filter.2 ⟨h,by simp[uq]⟩;rw[e] at this;cases this
def Dj (x:Lic) (nid:Nat) (h:Heap):zI prog false nid 22 1 [(0, .agg [.str x.name, .str x.fam, .int .i64 x.ver, .str x.text])] h=some (.sl 4 [x.cells] .full,h):=
 zz (P:=prog) (x:= .agg [.str x.name, .str x.fam, .int .i64 x.ver, .str x.text]) lL fg pd rfl rfl ow ow rfl rfl
theorem Dk (n:yy c d) (hs:c.Sm) {k:List UInt8} {x:Lic} (hf:rH c k=some x) (g:Heap):
  zA prog 168 [d, .str k] g λr h'=>h'=g/\∃ns,ns.Perm (o6 c x)/\r= .tuple [.sl 1 (yV ns) .no, .int .i64 0]:=by
 have F:=LF n hs k;have S:om c k= .tuple [.agg [.str x.name, .str x.fam, .int .i64 x.ver, .str x.text], .bool true]:=by unfold om;rw[hf]
 rw[S] at F;clear S;refine xU kr λbb=>xS ?_;refine xP λQ hQ=> ?_;have ad:=X6 hf;have s1:=hs.ls.1;obtain⟨a,b,e,p,rfl,ha,hb,he,hp⟩:=n;have A:=wX ha;have Y:=p7 x;obtain⟨G0,N,r0,E0,n0⟩:∃G,g.new g.next (.row [.str x.name, .str x.fam, .int .i64 x.ver, .str x.text])=G/\G.at' g.next=some (.row [.str x.name, .str x.fam, .int .i64 x.ver, .str x.text])/\Ext g G/\g.next<G.next:=⟨_,rfl,zK _ _ _,(Ext.refl g).new (le_refl _) _,by rw[zF];omega⟩;refine xO mix func168 zE2 rfl rfl ?_;simp only[f168,gJ]
 repeat' first|simp only[go_sem, *]|apply bc<;>intro n|(refine zA.mono (F _) ?_;rintro r h ⟨hq,rfl⟩)
 clear Y F hb he hp;refine zD (λi fr h=>∃s,fr 6= .ptr g.next 0/\fr 23=a/\fr 24= .int .i64 (c.ls.length:Int)/\fr 25= .int .i64 (i:Int)/\fr 8=s/\dZ G0 h 4 (pn ((c.ls.take i).filter (uq x))) s) c.ls.length ow ?_ ?_ ?_
 ·have a8:=dZ.start (Ext.refl G0) 4;simp only[go_sem,true_and,and_true,Int.ofNat_zero];exact⟨_,rfl,a8⟩
 ·rintro i fr l z ec ew ⟨s,f6,ai,ak,a0,f8,j⟩;have a1:=uO ha z;have w:(c.ls.take (i+1)).filter (uq x)=(c.ls.take i).filter (uq x)++ [c.ls[i]].filter (uq x):=by rw[take_succ_eq_append_getElem z,filter_append]
  have I:((c.ls.take i).filter (uq x)).length<=i:=le_trans (length_filter_le _ _) (by rw[length_take];omega);rw[w];clear w;generalize c.ls[i]=y at *
  generalize(c.ls.take i).filter (uq x)=pre at *
  have a9:=p7 y l l.next;have r1:(l.new l.next (.row [.str y.name, .str y.fam, .int .i64 y.ver, .str y.text])).at' g.next=some (.row [.str x.name, .str x.fam, .int .i64 x.ver, .str x.text]):=by
   rw[zG (by have:=j.1.1;omega),j.1.2 _ n0];exact r0
  have r2:(l.new l.next (.row [.str y.name, .str y.fam, .int .i64 y.ver, .str y.text])).at' l.next=some (.row [.str y.name, .str y.fam, .int .i64 y.ver, .str y.text]):=zK _ _ _;have m:=j.ext ((Ext.refl l).new (le_refl _) (.row [.str y.name, .str y.fam, .int .i64 y.ver, .str y.text]));simp only[Lic.cells] at a1;have W:=Dj y;generalize l.new l.next (.row [.str y.name, .str y.fam, .int .i64 y.ver, .str y.text])=H at *
  obtain⟨d',G,E,v,K⟩:=m.app (P:=prog) (ys:=pn [y]) (tk:= .full) lL Jc pd ow (λcs=>uh underlying108) (dx _) (dx _) (by simp[pn]) (by rw[rG,QA];unfold lim;simp[pn];omega) (by rw[rG];unfold lim;simp[pn];omega);have R:pn [y]= [y.cells]:=rfl;rw[R] at E K v;have U:pn (pre++ [y])=pn pre++ [y.cells]:=by simp[pn]
  rw[<-U] at v;clear j U R hQ A ha E0 N r0;cases q1:(y.fam==x.fam) with
  |false=>
   have f:pre++ [y].filter (uq x)=pre:=by simp[uq,q1]
   rw[f];clear f E K v
   repeat' first|simp only[go_sem, *]|apply bc<;>intro n
   exact⟨_,rfl,m⟩
  |true=>
   cases q2:decide (y.ver>=x.ver) with
   |false=>
    have f:pre++ [y].filter (uq x)=pre:=by simp only[filter_cons,uq,q1,q2];simp
    rw[f];clear f E K v
    repeat' first|simp only[go_sem, *]|apply bc<;>intro n
    exact⟨_,rfl,m⟩
   |true=>
    have f:pre++ [y].filter (uq x)=pre++ [y]:=by simp only[filter_cons,uq,q1,q2];simp
    rw[f];clear f m
    repeat' first|simp only[go_sem, *]|apply bc<;>intro n
    exact⟨_,rfl,v⟩
 ·rintro fr l ec ⟨s,f6,ai,ak,a0,f8,j⟩;rw[take_length] at j;have J:=X7 ad;have a5:(c.ls.filter (uq x)).length<=1048576:=le_trans (length_filter_le _ _) s1;have hS:o6 c x=(c.ls.filter (uq x)).map Lic.name:=rfl;rw[hS] at hQ;clear hS;generalize c.ls.filter (uq x)=L at *
  obtain⟨hx,n⟩:=j;rcases n with⟨_,e⟩ | ⟨id,rfl,C,hid,T,_⟩
  ·exact absurd (by simpa [pn] using e) J
  rw[rG] at f8;have X:=Di J a5 C;have O:∀ (ys:List Lic) r h',ys.Perm L->Ext g h'->below g.next (zj r)->Fin 1 (yV (ys.map Lic.name)) (zj r)->Q (.tuple [r, .int .i64 0]) h':=λys r h' q0 q1 q2 q3=>by
   refine hQ _ _ ⟨q1,?_,?_⟩
   ·simp only[zj,zw,below,zf];exact⟨q2,trivial,trivial⟩
   ·refine⟨ys.map Lic.name,q0.map _,?_⟩;rcases q3 with⟨_,e⟩ |e
    ·have:ys= []:=by simpa [yV] using e
     subst this;exact absurd (nil_perm.1 q0) J
    ·simp only[zj,zw,e]
  clear hQ ad A ha;have Z:g.next<=id:=le_trans E0.1 hid
  repeat' first|simp only[go_sem, *]|apply bc<;>intro n
  refine X.mono ?_;rintro r h3 ⟨rfl,ys,hp,rfl⟩;have ba:=hp.length_eq;have r1:(l.set id (.row (pn ys).flatten)).at' id=some (.row (pn ys).flatten):=zC _ _ _;have M:Ext g (l.set id (.row (pn ys).flatten)):=(E0.trans hx).set Z _;have u:id<(l.set id (.row (pn ys).flatten)).next:=T;generalize l.set id (.row (pn ys).flatten)=H at *
  have bk:=λ(h:Heap)=>tz (P:=prog) (t:=22) (sz:=4) (id:=id) (off:=0) (len:=L.length) (h:=h) underlying22;have D:=λr h'=>O ys r h' hp;clear O X C hx E0 N r0
  repeat' first|simp only[go_sem, *]|apply bc<;>intro n
  refine zD (λi fr h=>∃o,fr 48= .rs id 4 0 L.length/\fr 49= .int .i64 (L.length:Int)/\fr 50= .int .i64 (i:Int)/\fr 11=o/\Own H h 1 (yV ((ys.take i).map Lic.name)) o) L.length ow ?_ ?_ ?_
  ·have hs:=Own.start (Ext.refl H) 1;simp only[go_sem,true_and,and_true,Int.ofNat_zero];exact⟨_,rfl,hs⟩
  ·rintro i fr h3 z ec ew ⟨o,a2,a3,a4,ag,j⟩;have B:i<ys.length:=ow;have a1:=yB (P:=prog) (sz:=4) (id:=id) lL pd (k:= .i64) z;have a7:h3.at' id=some (.row (pn ys).flatten):=by rw[j.1.2 _ u];exact r1
   have p1:=sY (dx ys) ow (RA B);have w:(ys.take (i+1)).map Lic.name=(ys.take i).map Lic.name++ [ys[i].name]:=by rw[take_succ_eq_append_getElem B,map_append];rfl
   have I:((ys.take i).map Lic.name).length=i:=by rw[length_map,length_take];omega
   rw[w];clear w;generalize ys[i]=y at *
   generalize(ys.take i).map Lic.name=pre at *
   simp only[Lic.cells] at p1;have a9:=p7 y h3 h3.next;have m:=j.ext ((Ext.refl h3).new (le_refl _) (.row [.str y.name, .str y.fam, .int .i64 y.ver, .str y.text]));have r2:(h3.new h3.next (.row [.str y.name, .str y.fam, .int .i64 y.ver, .str y.text])).at' h3.next=some (.row [.str y.name, .str y.fam, .int .i64 y.ver, .str y.text]):=zK _ _ _;have W:=oY y.name;generalize h3.new h3.next (.row [.str y.name, .str y.fam, .int .i64 y.ver, .str y.text])=h4 at *
   clear D j r1 M u
   repeat' first|simp only[go_sem, *]|apply bc<;>intro n
   refine m.appH (ys:=yV [y.name]) yv jh uu ow Zm (by simp[yV]) (by rw[z8,tS,I];unfold lim;simp[yV];omega) (by rw[z8,I];unfold lim;simp[yV];omega) λd' h' V=> ?_;have a6:Own H h' 1 (yV (pre++ [y.name])) d':=by
    have:yV (pre++ [y.name])=yV pre++yV [y.name]:=by simp[yV]
    rw[this];exact V
   clear m V
   repeat' first|simp only[go_sem, *]|apply bc<;>intro n
   exact⟨_,rfl,a6⟩
  ·rintro fr h3 ec ⟨o,a2,a3,a4,ag,j⟩;rw[<-ba,take_length] at j;have q:=j.2.1.fin qN;have hq:=D o h3 (M.trans j.1) (zu (zero_le _) _ q.1) q.2;clear D q j;exact au
def szd (l:List (List Trm)):Option (List (List Trm)):=if l.length>64 then none else some l
def o7 (a b:List (List Trm)):List (List Trm):=n9 (a.map mkA) (b.map mkA)
mutual
def kA (c:Cat):Ex->Option (List (List Trm))
 | .mk k n x l _=>if(k==0)=true then some [[⟨n,x⟩]] else if(k==1)=true then(match rH c n with
   |none=>none
   |some y=>szd (yi ((o6 c y).map λs=>[⟨s,[]⟩])))
  else match mY c k l true [] with
   |none=>none
   |some out=>szd (yi out)
def mY (c:Cat) (k:Int):List Ex->Bool->List (List Trm)->Option (List (List Trm))
 | [],_,out=>some out
 |e::es,first,out=>match kA c e with
  |none=>none
  |some l=>if(k==3)=true then mY c k es false (out++l) else if first=true then mY c k es false l else match szd (yi (o7 out l)) with
   |none=>none
   |some o=>mY c k es false o
end
def Ex.Fit (c:Cat) (e:Ex):Prop:=∀x∈e.pre,x.err=0/\Vw c x=0
theorem RN:∀ {l:List Ex} {e x:Ex},e∈l->x∈e.pre->x∈gb l
 |a::l,e,x,h,b=>by
  simp only[gb];rcases mem_cons.1 h with rfl|h
  ·exact mem_append_left _ b
  ·exact mem_append_right _ (RN h b)
def Ex.Fit.kid {e k:Ex} (h:e.Fit c) (a:k∈e.kids):k.Fit c:=λx b=>by
 obtain⟨g,n,f,l,d⟩:=e;exact h x (by simp only[Ex.pre];exact mem_cons_of_mem _ (RN a b))
def Ex.Fit.self (h:e.Fit c):e.err=0/\Vw c e=0:=by
 obtain⟨b,n,a,l,d⟩:=e;exact h _ (by simp only[Ex.pre];exact mem_cons_self)
theorem nU {f:Nat->Int} :∀ {n:Nat},p8 f n=0->∀i,i<n->f i=0
 |n+1,h,i,a=>by
  simp only[p8] at h;split at h
  ·rename_i q;rcases Nat.lt_succ_iff_lt_or_eq.1 a with g|rfl
   ·exact nU (by simpa using q) i g
   ·exact h
  ·rename_i q;exact absurd (by simpa using h) q
def RO (h:tL c e=0):wp c=0/\e.size<=64/\e.Fit c:=by
 unfold tL at h;split at h
 ·exact absurd h (by decide)
 rename_i j;split at h
 ·rename_i q;rw[h] at q;exact absurd q (by decide)
 rename_i k;have a:oo e=0:=by simpa using k
 unfold oo at a;split at a
 ·exact absurd a (by decide)
 rename_i l;split at a
 ·exact absurd a (by decide)
 refine⟨by simpa using j,by simp at l;omega,λx g=> ?_⟩;obtain⟨i,b,rfl⟩:=mem_iff_getElem.1 g;rw[e.pre_len] at b;have h1:=nU a i b;have d:=nU h i b;have f:e.pre.getD i e=e.pre[i]'(by rw[e.pre_len];exact b):=by rw[getD_eq_getElem?_getD,getElem?_eq_getElem];rfl
 unfold Ex.errAt at h1;unfold Ex.unk at d;rw[f] at h1 d;exact⟨h1,d⟩
def RP {k:Int} {n x:List UInt8} {l:List Ex} (h:(Ex.mk k n x l d).Fit c):((k=0\/k=1)/\l= []/\(k=1->x= [])/\∃y,rH c n=some y)\/((k=2\/k=3)/\2<=l.length):=by
 obtain⟨h1,f⟩:=h.self;replace h1:mV k n x l.length=0:=h1;unfold mV at h1;by_cases q:((k==0)||(k==1))=true
 ·left;rw[ip q] at h1;by_cases a:(decide ((l.length:Int)>0)||((k==1)&& !(x== [])))=true
  ·rw[ip a] at h1;exact absurd h1 (by decide)
  rw[iq a] at h1;by_cases b:(!tJ n||(!(x== [])&& !tJ x))=true
  ·rw[ip b] at h1;exact absurd h1 (by decide)
  simp only[Bool.or_eq_true,beq_iff_eq,decide_eq_true_eq,Bool.and_eq_true,Bool.not_eq_true',not_or,not_and,Bool.not_eq_false,beq_eq_false_iff_ne] at q a b;refine⟨q,length_eq_zero_iff.1 ow,λe=>by simpa using a.2 e,?_⟩;replace f:(if(!(n== [])&& !gF c n x)=true then(7:Int) else 0)=0:=f
  by_cases i:(!(n== [])&& !gF c n x)=true
  ·rw[ip i] at f;exact absurd f (by decide)
  have m:¬(n== [])=true:=λe=>by
   have:n= []:=by simpa using e
   subst this;exact absurd b.1 (by decide)
  have g:gF c n x=true:=by
   cases j:gF c n x with
   |true=>rfl
   |false=>exact absurd (by simp[j,m]) i
  unfold gF at g;simp only[Bool.and_eq_true] at g;exact Option.isSome_iff_exists.1 g.1
 ·rw[iq q] at h1;by_cases a:((k==2)||(k==3))=true
  ·rw[ip a] at h1;right;by_cases b:(decide ((l.length:Int)<2)|| !(n== [])|| !(x== []))=true
   ·rw[ip b] at h1;exact absurd h1 (by decide)
   simp only[Bool.or_eq_true,beq_iff_eq,decide_eq_true_eq,Bool.not_eq_true',not_or] at a b;exact⟨a,by omega⟩
  ·rw[iq a] at h1;exact absurd h1 (by decide)
theorem RQ {l:List (List Trm)} (h:l≠[]):∀n,0<n->n<=l.length->px l n≠[]
 |1,_,a=>by
  rw[px,getElem?_eq_getElem ow];simp[px,oz]
 |n+2,_,a=>by
  have b:=RQ h (n+1) ow ow;rw[px,getElem?_eq_getElem ow];simp only[oz];split
  ·exact b
  ·simp
def dy {l:List (List Trm)} (h:l≠[]):yi l≠[]:=by
 have a:(wt l).length=l.length:=by rw[wt,(qi _).length_eq,length_map]
 have b:0<l.length:=length_pos_iff.2 h;exact RQ (λe=>by rw[e] at a;simp at a;omega) _ ow (le_refl _)
def o8 (l:List (List Trm)):(yi l).length<=l.length:=by
 have a:(wt l).length=l.length:=by rw[wt,(qi _).length_eq,length_map]
 have:=dq (l:=wt l) (wt l).length;rw[a] at this;unfold yi;rw[a];exact this
def Z4 {l m:List (List Trm)} (h:l.Perm m):yi l=yi m:=by
 unfold yi wt;rw[LX dp X1 (h.map t6)]
def gg {l m:List (List Trm)} (h:szd l=some m):m=l/\l.length<=64:=by
 unfold szd at h;split at h
 ·cases h
 ·cases h;exact⟨rfl,by omega⟩
structure AltsOk (n:Nat) (l:List (List Trm)):Prop where
 ne:l≠[]
 ts:∀t∈l,t≠[]/\t.length<=n
def AltsOk.mono {n m:Nat} {l:List (List Trm)} (h:AltsOk n l) (b:n<=m):AltsOk m l:=⟨h.ne,λt a=>⟨(h.ts t a).1,le_trans (h.ts t a).2 b⟩⟩
def AltsOk.min {l:List (List Trm)} (h:AltsOk n l):AltsOk n (yi l):=⟨dy h.ne,λt b=>by
 obtain⟨y,c,rfl⟩:=X3 b;obtain⟨h1,a⟩:=h.ts y c;exact⟨RK h1,le_trans (X2 _) a⟩⟩
def AltsOk.app {l m:List (List Trm)} (h:∀t∈l,t≠[]/\t.length<=n) (k:AltsOk n m):AltsOk n (l++m):=⟨λe=>k.ne (append_eq_nil_iff.1 e).2,λt a=>by
 rcases mem_append.1 a with q|q
 ·exact h t q
 ·exact k.ts t q⟩
def Qf {a b:List (List Trm)} {t:List Trm} (h:t∈o7 a b):∃x∈a,∃y∈b,t=x++y:=by
 unfold o7 n9 at h;obtain⟨k,c,rfl⟩:=mem_map.1 h;rw[mem_range,length_map,length_map] at c;have d:0<b.length:=by
  rcases Nat.eq_zero_or_pos b.length with e|e
  ·rw[e,Nat.mul_zero] at c;omega
  ·exact e
 have h1:k/b.length<a.length:=by rw[Nat.div_lt_iff_lt_mul d];exact c
 have f:k%b.length<b.length:=Nat.mod_lt _ d;refine⟨a[k/b.length],getElem_mem _,b[k%b.length],getElem_mem _,?_⟩;simp[jw,h1,f,mkA]
def aQ (a b:List (List Trm)):(o7 a b).length=a.length*b.length:=by rw[o7,aP,length_map,length_map]
def AltsOk.pairs {n m:Nat} {a b:List (List Trm)} (h:AltsOk n a) (k:AltsOk m b):AltsOk (n+m) (o7 a b):=by
 refine⟨λe=> ?_,λt d=> ?_⟩
 ·have:=aQ a b;rw[e] at this;have h1:0<a.length:=length_pos_iff.2 h.ne;have c:0<b.length:=length_pos_iff.2 k.ne;have:=Nat.mul_pos h1 c;simp at *;omega
 ·obtain⟨x,f,y,g,rfl⟩:=Qf d;have h1:=h.ts x f;have c:=k.ts y g;exact⟨λe=>h1.1 (append_eq_nil_iff.1 e).1,by rw[length_append];omega⟩
def dz {n:List UInt8} {y:Lic} (h:rH c n=some y):o6 c y≠[]:=λe=>X7 (X6 h) (map_eq_nil_iff.1 e)
def V8:∀n:Nat,(∀e:Ex,e.size<=n->e.Fit c->∀l,kA c e=some l->l.length<=64/\AltsOk e.size l)/\
  ∀ (k:Int) (a:List Ex),zi a<=n->(∀e∈a,e.Fit c)->∀ (m:Nat) (first:Bool) (out R:List (List Trm)),(∀t∈out,t≠[]/\t.length<=m)->(first=false->out≠[])->(a= []->out≠[])->mY c k a first out=some R->AltsOk (m+zi a) R/\R.length<=out.length+64*a.length:=by
 intro n
 induction n with
 |zero=>
  refine⟨λe h=> ?_,λk a h hf m first out R h1 B h3 b=> ?_⟩
  ·cases e;simp only[Ex.size] at h;omega
  ·cases a with
   |nil=>simp only[mY] at b;cases b;exact⟨⟨h3 rfl,by simpa [zi] using h1⟩,by simp⟩
   |cons e l=>cases e;simp only[zi,Ex.size] at h;omega
 |succ n z=>
  have key:∀e:Ex,e.size<=n+1->e.Fit c->∀l,kA c e=some l->l.length<=64/\AltsOk e.size l:=λe h hf l f=>by
   obtain⟨k,M,x,a,d⟩:=e;simp only[Ex.size] at h⊢;have G:=RP hf;rw[kA] at f;split at f
   ·cases f;exact⟨by simp,by simp,λt p=>by cases mem_singleton.1 p;exact⟨by simp,by simp⟩⟩
   split at f
   ·split at f
    ·cases f
    ·rename_i y J;obtain⟨rfl,r⟩:=gg f;refine⟨r,AltsOk.min ⟨by simpa using dz J,λt p=> ?_⟩⟩;obtain⟨s,_,rfl⟩:=mem_map.1 p;exact⟨by simp,by simp⟩
   ·rename_i K L;split at f
    ·cases f
    ·rename_i out w;obtain⟨rfl,r⟩:=gg f;have A:2<=a.length:=by
      rcases G with⟨q,_⟩ | ⟨_,q⟩
      ·rcases q with rfl|rfl
       ·exact absurd rfl K
       ·exact absurd rfl L
      ·exact q
     have:=z.2 k a ow (λe F=>hf.kid F) 0 true [] out (λt p=>by cases p) (by simp) (λe=>by subst e;simp at A) w;exact⟨r,this.1.min.mono ow⟩
  refine⟨key,λk a h hf m first out R h1 B h3 b=> ?_⟩
  cases a with
  |nil=>simp only[mY] at b;cases b;exact⟨⟨h3 rfl,by simpa [zi] using h1⟩,by simp⟩
  |cons e a=>
   have C:0<e.size:=by cases e;simp only[Ex.size];omega
   simp only[zi] at h⊢;rw[mY] at b;split at b
   ·cases b
   ·rename_i l f;obtain⟨D,g⟩:=key e ow (hf e (by simp)) l f;have u:∀e∈a,e.Fit c:=λx I=>hf x (mem_cons_of_mem _ I);split at b
    ·have i:=AltsOk.app (n:=m+e.size) (λt p=>⟨(h1 t p).1,le_trans (h1 t p).2 ow⟩) (g.mono (show e.size<=m+e.size by omega));have:=z.2 k a ow u (m+e.size) false (out++l) R i.ts (λ_=>i.ne) (λ_=>i.ne) b;refine⟨this.1.mono ow,?_⟩;have q:=this.2;rw[length_append] at q;simp only[length_cons];omega
    ·split at b
     ·have i:=g.mono (show e.size<=m+e.size by omega);have:=z.2 k a ow u (m+e.size) false l R i.ts (λ_=>i.ne) (λ_=>i.ne) b;refine⟨this.1.mono ow,?_⟩;have q:=this.2;simp only[length_cons];omega
     ·rename_i j;have v:out≠[]:=B (by simpa using j);split at b
      ·cases b
      ·rename_i o H;obtain⟨rfl,E⟩:=gg H;have i:=(AltsOk.pairs ⟨v,h1⟩ g).min;have:=z.2 k a ow u (m+e.size) false _ R i.ts (λ_=>i.ne) (λ_=>i.ne) b;refine⟨this.1.mono ow,?_⟩;have q:=this.2;simp only[length_cons];omega
def bA:Option (List (List Trm))->D
 |some l=> .tuple [.sl 1 (zl (l.map mkA)) .no, .int .i64 0]
 |none=> .tuple [.nilsl, .int .i64 10]
def jK (l:List (List Trm)):X5 l=bA (szd l):=by
 unfold X5 szd;split<;>rfl
def aR (l:List (List Trm)):zj (.sl 1 (zl (l.map mkA)) .no)= .sl 1 (zl (l.map mkA)) .no/\below 0 (.sl 1 (zl (l.map mkA)) .no):=yC (RM l) .no
def pO (o:Option (List (List Trm))) (n:Nat):zj (bA o)=bA o/\below n (bA o):=by
 cases o with
 |none=>exact⟨rfl,by simp[bA,below,zf]⟩
 |some l=>
  obtain⟨h1,a⟩:=aR l;refine⟨?_,?_⟩
  ·simp only[bA,zj,zw] at h1⊢;rw[h1]
  ·simp only[bA,below,zf];exact⟨zu (Nat.zero_le _) _ a,trivial,trivial⟩
def RR (s x:List UInt8):Alt:=⟨[⟨s,x⟩], .sl 2 [[.str s, .str x]] .full⟩
def Dl (s x:List UInt8):(RR s x).Ok:=⟨zZ.mk .full,by simp[RR],by simp[RR]⟩
def zB1 (s x:List UInt8):zx prog 130 [(0, .str s),(1, .str x)]=some (.agg [.str s, .str x]):=by simp[zx,tE,wA,qK,D.notTuple,D.cells,yY]
def zB2 (s:List UInt8):zx prog 130 [(0, .str s)]=some (.agg [.str s, .str []]):=by simp[zx,tE,wA,qK,D.notTuple,D.cells,yY]
def Lh (s x:List UInt8) (nid:Nat) (h:Heap):zI prog false nid 128 1 [(0, .agg [.str s, .str x])] h=some (.sl 2 [[.str s, .str x]] .full,h):=
 zz (P:=prog) (x:= .agg [.str s, .str x]) yg wA qB rfl rfl ow ow rfl rfl
def nf (c:Cat) (e:Ex):D:=bA (kA c e)
def Qg (e:yy c d) {n x:List UInt8} (g:Heap):
  zA prog 91 [d, .agg [.int .i64 0, .str n, .str x,y]] g λr h'=>h'=g/\r=bA (some [[⟨n,x⟩]]):=by
 refine xU kr λa=>xS ?_;refine xP λQ b=> ?_;obtain⟨ca,cb,ce,cp,rfl,_,_,_,_⟩:=e;have h1:=zB1 n x;have f:=Lh n x;have h3:=λnid h=>mX (.sl 2 [[.str n, .str x]] .full) nid h rfl rfl rfl;have i:=b (.tuple [.sl 1 [[.sl 2 [[.str n, .str x]] .full]] .full, .int .i64 0]) g ⟨Ext.refl g,by
  simp[zj,zw,ue,below,zf,sD],by simp[zj,zw,ue,bA,zl,mkA,yX,Trm.cells]⟩
 refine xO mix func91 zC5 rfl rfl ?_;simp only[f91,gJ];exact au
theorem Qh (f:yy c d) (V:c.Sm) {n x:List UInt8} {z:Lic} (hf:rH c n=some z) (g:Heap):
  zA prog 91 [d, .agg [.int .i64 1, .str n, .str x,y]] g λr h'=>h'=g/\r=bA (szd (yi ((o6 c z).map λs=>[⟨s,[]⟩]))):=by
 have v:=Dk f V hf;have ak:=V.ls.1;have m:=dz hf;have ag:(o6 c z).length<=c.ls.length:=by rw[o6,List.length_map];exact List.length_filter_le _ _
 refine xU kr λU=>xS ?_;refine xP λQ P=> ?_;obtain⟨ca,cb,ce,cp,rfl,_,_,_,_⟩:=f;have O:=Own.start (Ext.refl g) 1;have w:∀ (ns:List (List UInt8)) (h:Heap),tu prog 31 (.sl 1 (yV ns) .no) h=some (.int .i64 ns.length):=λns h=>yQ (zZ.mk .no) h;have k:∀ (ns:List (List UInt8)) (i:Nat) (T:i<ns.length),zR prog 31 (.sl 1 (yV ns) .no) (.int .i64 (i:Int))=some (.iptr [.str ns[i]] 0):=λns i T=>wU (zZ.mk .no) T;refine xO mix func91 zC5 rfl rfl ?_;simp only[f91,gJ]
 repeat' first|simp only[go_sem, *]|apply bc<;>intro f
 refine(v _).mono ?_;rintro r h ⟨j,ns,H,rfl⟩;subst j;have ai:ns.length<=1048576:=by rw[H.length_eq];omega
 have F:ns≠[]:=λe=>by subst e;exact m (List.nil_perm.1 H)
 have ad:=w ns;clear w v
 repeat' first|simp only[go_sem, *]|apply bc<;>intro f
 refine zD (λi fr N=>∃o,fr 35= .sl 1 (yV ns) .no/\fr 36= .int .i64 (ns.length:Int)/\fr 37= .int .i64 (i:Int)/\fr 6=o/\Own h N 1 (zl ((ns.take i).map λs=>RR s [])) o) ns.length ow ?_ ?_ ?_
 ·simp only[go_sem,true_and,and_true,Int.ofNat_zero];exact⟨_,rfl,O⟩
 ·rintro i fr N B Y ew ⟨o,J,K,L,Z,p⟩;have a1:=k ns i B;have I:(ns.take (i+1)).map (λs=>RR s [])=(ns.take i).map (λs=>RR s [])++ [RR ns[i] []]:=by rw[List.take_succ_eq_append_getElem B,List.map_append];rfl
  have A:((ns.take i).map λs=>RR s []).length=i:=by rw[List.length_map,List.length_take];omega
  rw[I];clear I P k H;generalize ns[i]=s at *
  generalize(ns.take i).map (λs=>RR s [])=pre at *
  have b1:=zB2 s;have b2:=Lh s [];have b3:=λnid h=>mX (.sl 2 [[.str s, .str []]] .full) nid h rfl rfl rfl
  repeat' first|simp only[go_sem, *]|apply bc<;>intro f
  refine p.appH (ys:=zl [RR s []]) yp uH yu ow (wH _) (by simp[zl]) (by rw[zY,qW,A];unfold lim;simp[zl];omega) (by rw[zY,A];unfold lim;simp[zl];omega) λX h' G=> ?_;have R:Own h h' 1 (zl (pre++ [RR s []])) X:=by
   have:zl (pre++ [RR s []])=zl pre++zl [RR s []]:=by simp[zl]
   rw[this];exact G
  clear p G
  repeat' first|simp only[go_sem, *]|apply bc<;>intro f
  exact⟨_,rfl,R⟩
 ·rintro fr N Y ⟨o,J,K,L,Z,p⟩;rw[List.take_length] at p;have l:=dw p.isSl (by simpa using F) (by rw[List.length_map];omega) (λa ha=>by
   obtain⟨s,_,rfl⟩:=List.mem_map.1 ha;exact Dl s [])
  have E:yi ((ns.map λs=>RR s []).map Alt.ts)=yi ((o6 c z).map λs=>[⟨s,[]⟩]):=by
   rw[List.map_map];exact Z4 (H.map _)
  rw[E] at l;have C:yi ((o6 c z).map λs=>[⟨s,[]⟩])≠[]:=dy (by simpa using m);have D:(yi ((o6 c z).map λs=>[⟨s,[]⟩])).length<=1048576:=by
   refine Nat.le_trans (o8 _) ?_;rw[List.length_map];omega
  generalize yi ((o6 c z).map λs=>[⟨s,[]⟩])=M at *
  have b:=V7 D;rw[jK] at b;have q:∀h',Ext h h'->Q (bA (szd M)) h':=λh' he=>P _ _ ⟨he,by rw[(pO _ 0).1];exact(pO _ _).2,by rw[(pO _ 0).1]⟩;have t:=p.1;clear P E H k m F p;have u:∀r,Fin 1 (zl (M.map mkA)) r->r= .sl 1 (zl (M.map mkA)) .no:=λr hr=>by
   rcases hr with⟨_,e⟩ |e
   ·exact absurd (by simpa [zl] using e) C
   ·exact e
  repeat' first|simp only[go_sem, *]|apply bc<;>intro f
  refine(l _).mono ?_;rintro r h3 ⟨j,hr⟩;subst j;have S:=u r hr;subst S;have j:=q _ t;clear q hr l t C D;cases W:szd M with
  |none=>
   rw[W] at b j;simp only[bA] at b j
   repeat' first|simp only[go_sem, *]|apply bc<;>intro f|(refine zA.mono (b _) ?_;rintro r h ⟨rfl,rfl⟩)
  |some M'=>
   rw[W] at b j;simp only[bA] at b j
   repeat' first|simp only[go_sem, *]|apply bc<;>intro f|(refine zA.mono (b _) ?_;rintro r h ⟨rfl,rfl⟩)
def Li {l:List (List Trm)} (h0:l≠[]) {r:D} (hr:Fin 1 (zl (l.map mkA)) r):r= .sl 1 (zl (l.map mkA)) .no:=by
 rcases hr with⟨_,e⟩ |e
 ·exact absurd (by simpa [zl] using e) h0
 ·exact e
def Z5 {m:Nat} {l:List (List Trm)} (h:∀t∈l,t≠[]/\t.length<=m) (b:m<=4096):∀q∈l.map mkA,q.Ok:=λq c=>by
 obtain⟨t,a,rfl⟩:=mem_map.1 c;exact RL (h t a).1 (le_trans (h t a).2 b)
def FI (l:List (List Trm)):(l.map mkA).map Alt.ts=l:=by rw[map_map];exact map_id _
structure MInv (c:Cat) (k:Int) (l:List Ex) (R:Option (List (List Trm))) (g:Heap) (i:Nat) (out:List (List Trm)) (o:D) (h:Heap):Prop where
 hE:Ext g h
 hK:mY c k (l.drop i) (i==0) out=R
 hor:k=3->Own g h 1 (zl (out.map mkA)) o
 hand:k≠3->(i=0/\out= [])\/(out≠[]/\o= .sl 1 (zl (out.map mkA)) .no/\out.length<=64)
 hts:∀t∈out,t≠[]/\t.length<=zi (l.take i)
 hol:out.length<=64*i+64
theorem Lj (D:yy c d) (hs:c.Sm):∀ (n:Nat) (e:Ex),e.size<=n->e.size<=64->e.Fit c->e.Ok->∀g:Heap,
  zA prog 91 [d, .agg e.cells] g λr h'=>h'=g/\r=nf c e:=by
 intro n
 induction n with
 |zero=>intro e h;cases e;simp only[Ex.size] at h;omega
 |succ n ih=>
 intro e hn W J S g;obtain⟨k,nm,x,l,dd⟩:=e;have I:(Ex.mk k nm x l dd).cells= [.int .i64 k, .str nm, .str x,dd]:=rfl;rw[I];simp only[Ex.size] at hn W;have F:∀ (i:Nat) (hi:i<l.length),l[i].Fit c/\l[i].Ok/\∀g:Heap,zA prog 91 [d, .agg l[i].cells] g λr h'=>h'=g/\r=nf c l[i]:=λi hi=>by
  have Z:=getElem_mem hi;have h1:l[i].Fit c:=J.kid (e:= .mk k nm x l dd) Z;have h2:l[i].Ok:=uP (by simp only[Ex.Ok] at S;exact S.2.2.2.2) _ Z;have h3:=yh Z;exact⟨h1,h2,ih _ ow ow h1 h2⟩
 rcases RP J with⟨hk,hl,hx,y,hy⟩ | ⟨hk,b8⟩
 ·rcases hk with rfl|rfl
  ·refine(Qg D (n:=nm) (x:=x) (y:=dd) g).mono λr h' ⟨q1,q2⟩=>⟨q1,?_⟩;rw[q2];simp[nf,kA]
  ·refine(Qh D hs hy (x:=x) (y:=dd) g).mono λr h' ⟨q1,q2⟩=>⟨q1,?_⟩;rw[q2];simp[nf,kA,hy]
 have e0:(k==0)=false:=by rcases hk with rfl|rfl<;>rfl
 have e1:(k==1)=false:=by rcases hk with rfl|rfl<;>rfl
 have hR:kA c (.mk k nm x l dd)=match mY c k l true [] with
  |none=>none
  |some out=>szd (yi out):=by rw[kA,iq (by rw[e0];exact Bool.false_ne_true),iq (by rw[e1];exact Bool.false_ne_true)];try (cases mY c k l true []<;>rfl)
 have N:∀R,mY c k l true []=some R->AltsOk 64 R/\R.length<=64*l.length:=λR hR=>by
  have:=(V8 (c:=c) (zi l)).2 k l (le_refl _) (λe he=>J.kid (e:= .mk k nm x l dd) he) 0 true [] R (λt V=>by cases V) (by simp) (λe=>by subst e;simp at b8) hR;exact⟨this.1.mono ow,by simpa using this.2⟩
 have cm:l.length<=64:=by
  have:∀l:List Ex,l.length<=zi l:=λl=>by
   induction l with
   |nil=>simp
   |cons e l ih=>simp only[zi,length_cons];cases e;simp only[Ex.size];omega
  have:=this l;omega
 have a6:zZ 4 (exs l) dd:=by simp only[Ex.Ok] at S;exact S.1
 have z:=λ(e:Ex) (he:e.Fit c) (l:List (List Trm)) (hl:kA c e=some l)=>(V8 (c:=c) e.size).1 e (le_refl _) he l hl;have a3:∀i (hi:i<l.length),zi (l.take (i+1))=zi (l.take i)+l[i].size/\zi (l.take (i+1))<=zi l:=λi hi=>by
  have app:∀a b:List Ex,zi (a++b)=zi a+zi b:=λa b=>by
   induction a with
   |nil=>simp[zi]
   |cons e a ih=>simp only[cons_append,zi,ih];omega
  refine⟨by rw[take_succ_eq_append_getElem hi,app];simp[zi],?_⟩;have:=app (l.take (i+1)) (l.drop (i+1));rw[take_append_drop] at this;omega
 obtain⟨R,eR⟩:∃R,mY c k l true []=R:=⟨_,rfl⟩;refine xU kr λch=>xS ?_;refine xP λQ hQ=> ?_;have p:∀h',Ext g h'->Q (nf c (.mk k nm x l dd)) h':=λh' he=>hQ _ _ ⟨he,by unfold nf;rw[(pO _ 0).1];exact(pO _ _).2,by unfold nf;rw[(pO _ 0).1]⟩;unfold nf at p;rw[hR,eR] at p;rw[eR] at N;clear hQ hR J S ih I;obtain⟨ca,cb,ce,cp,rfl,_,_,_,_⟩:=D;have cg:=uQ a6;have b6:=Own.start (Ext.refl g) 1;refine xO mix func91 zC5 rfl rfl ?_;simp only[f91,gJ]
 repeat' first|simp only[go_sem, *]|apply bc<;>intro D
 refine zD (λi fr h=>∃out o,fr 2= .iptr [ca,cb,ce,cp] 0/\fr 3= .iptr [.int .i64 k, .str nm, .str x,dd] 0/\fr 54=dd/\fr 55= .int .i64 (l.length:Int)/\fr 56= .int .i64 (i:Int)/\fr 6=o/\MInv c k l R g i out o h) l.length ow ?_ ?_ ?_
 ·have h0:MInv c k l R g 0 [] .nilsl g:=⟨Ext.refl g,eR,λ_=>b6,λ_=> .inl ⟨rfl,rfl⟩,λt V=>(by cases V),by simp⟩;simp only[go_sem,true_and,and_true,Int.ofNat_zero];exact⟨_,_,rfl,h0⟩
 ·rintro i fr h Y ec ew ⟨out,o,f2,f3,b3,b4,b5,f6,⟨hE,j,T,s,w,ad⟩⟩;have a1:=pM a6 Y;obtain⟨kf,ko,kc⟩:=F i Y;obtain⟨s1,s2⟩:=a3 i Y;have cc:=LL l[i] (Ex.flat ko) h h.next;have K:=hE.new hE.1 (.row l[i].cells);have bs:(h.new h.next (.row l[i].cells)).at' h.next=some (.row l[i].cells):=zK _ _ _;rw[drop_eq_getElem_cons Y,mY] at j;have ag:=z _ kf;have ai:Ext h (h.new h.next (.row l[i].cells)):=(Ext.refl h).new (le_refl _) _;have A:k=3->Own g (h.new h.next (.row l[i].cells)) 1 (zl (out.map mkA)) o:=λe=>(T e).ext ai;generalize hy:l[i]=y at *
  simp only[Ex.cells] at a1 kc cc K bs A ai;generalize hH:h.new h.next (.row [.int .i64 y.kind, .str y.name, .str y.exc,y.d])=H at *
  clear F a3 z T;have a8:((i:Int)==0)=(i==0):=by cases i<;>rfl
  have cl:(i+1==0)=false:=rfl;cases Z:kA c y with
  |none=>
   rw[Z] at j;simp only at j;have m:=p H K;rw[<-j] at m;simp only[bA] at m;have O:nf c y= .tuple [.nilsl, .int .i64 10]:=by unfold nf;rw[Z];rfl
   rw[O] at kc;clear O p A s w j
   repeat' first|simp only[go_sem, *]|apply bc<;>intro D|(refine zA.mono (kc _) ?_;rintro r h ⟨m,rfl⟩)
  |some C=>
   rw[Z] at j;simp only at j;obtain⟨W,u⟩:=ag C Z;have O:nf c y= .tuple [.sl 1 (zl (C.map mkA)) .no, .int .i64 0]:=by unfold nf;rw[Z];rfl
   rw[O] at kc;clear O ag;cases q3:(k==3) with
   |true=>
    rw[ip q3] at j;have v:k=3:=by simpa using q3
    have bk:=A v;clear s A p
    repeat' first|simp only[go_sem, *]|apply bc<;>intro D|(refine zA.mono (kc _) ?_;rintro r h ⟨m,rfl⟩)
    subst m;refine bk.appH (ys:=zl (C.map mkA)) yp uH yu ow (wH _) (by simpa [zl] using u.ne) (by rw[zY,zY,length_map,length_map,qW];unfold lim;omega) (by rw[zY,zY,length_map,length_map];unfold lim;omega) λd' h' ba=> ?_;have a2:Own g h' 1 (zl ((out++C).map mkA)) d':=by
     have:zl ((out++C).map mkA)=zl (out.map mkA)++zl (C.map mkA):=by simp[zl]
     rw[this];exact ba
    have B:MInv c k l R g (i+1) (out++C) d' h':=⟨a2.1,j,λ_=>a2,λq=>absurd v q,λt V=>by
     rcases mem_append.1 V with q|q
     ·exact⟨(w t q).1,le_trans (w t q).2 ow⟩
     ·exact⟨(u.ts t q).1,le_trans (u.ts t q).2 ow⟩,by rw[length_append];omega⟩
    clear ba bk j w ad u a2 v
    repeat' first|simp only[go_sem, *]|apply bc<;>intro D
    exact⟨_,_,rfl,B⟩
   |false=>
    rw[iq (by rw[q3];exact Bool.false_ne_true)] at j;have v:k≠3:=by simpa using q3
    have E:=s v;clear s A;cases q0:(i==0) with
    |true=>
     rw[ip q0] at j;have B:MInv c k l R g (i+1) C (.sl 1 (zl (C.map mkA)) .no) H:=⟨K,j,λq=>absurd q v,λ_=> .inr ⟨u.ne,rfl,W⟩,λt V=>⟨(u.ts t V).1,le_trans (u.ts t V).2 ow⟩,by omega⟩;clear j w ad u E p;rw[q0] at a8
     repeat' first|simp only[go_sem, *]|apply bc<;>intro D|(refine zA.mono (kc _) ?_;rintro r h ⟨m,rfl⟩)
     subst m;exact⟨_,_,rfl,B⟩
    |false=>
     rw[iq (by rw[q0];exact Bool.false_ne_true)] at j;rw[q0] at a8;obtain⟨ak,ho,bb⟩:out≠[]/\o= .sl 1 (zl (out.map mkA)) .no/\out.length<=64:=by
      rcases E with⟨q,_⟩ |q
      ·subst q;exact absurd q0 (by decide)
      ·exact q
     subst ho;have U:=AltsOk.pairs ⟨ak,w⟩ u;have b1:=Z5 w ow;have b2:=Z5 u.ts ow;have a5:=Dh (zZ.mk (sz:=1) (xs:=zl (out.map mkA)) .no) (zZ.mk (sz:=1) (xs:=zl (C.map mkA)) .no);have au:=Qe (zZ.mk (sz:=1) (xs:=zl (out.map mkA)) .no) (zZ.mk (sz:=1) (xs:=zl (C.map mkA)) .no) b1 b2 (by rw[length_map];omega) (by rw[length_map];omega);have bo:n9 (out.map mkA) (C.map mkA)=o7 out C:=rfl;rw[bo] at au;have cs:(o7 out C).length<=4096:=by
      rw[aQ];exact le_trans (Nat.mul_le_mul bb W) ow
     have G:=dw (zZ.mk (sz:=1) (xs:=zl ((o7 out C).map mkA)) .no) (by simpa using U.ne) (by rw[length_map];omega) (Z5 U.ts ow);rw[FI] at G;have z:=U.min;have a9:=z.ne;have a0:(yi (o7 out C)).length<=1048576:=le_trans (o8 _) ow;have a7:=λr hr=>Li U.ne (r:=r) hr;have L:=λr hr=>Li z.ne (r:=r) hr;generalize o7 out C=P at *
     generalize hM:yi P=M at *
     have f:=V7 a0;rw[jK] at f;clear bo U b1 b2 w ad u E ak
     repeat' first|simp only[go_sem, *]|apply bc<;>intro D|(refine zA.mono (kc _) ?_;rintro r h ⟨m,rfl⟩)
     subst m;clear kc;refine(a5 _).mono ?_;rintro r h1 ⟨m,rfl⟩;subst m;clear a5
     repeat' first|simp only[go_sem, *]|apply bc<;>intro D
     refine(au _).mono ?_;rintro r h2 ⟨m,hr⟩;subst m;have hr:=a7 r hr;subst hr;clear au
     repeat' first|simp only[go_sem, *]|apply bc<;>intro D
     refine(G _).mono ?_;rintro r h3 ⟨m,hr⟩;subst m;have hr:=L r hr;subst hr;clear G a7 L;cases hz:szd M with
     |none=>
      rw[hz] at j f;simp only at j;have m:=p _ K;rw[<-j] at m;simp only[bA] at m f;clear p j z a9
      repeat' first|simp only[go_sem, *]|apply bc<;>intro D|(refine zA.mono (f _) ?_;rintro r h ⟨rfl,rfl⟩)
     |some M'=>
      obtain⟨rfl,a4⟩:=gg hz;rw[hz] at j f;simp only at j;simp only[bA] at f;have B:MInv c k l R g (i+1) M' (.sl 1 (zl (M'.map mkA)) .no) h3:=⟨K,j,λq=>absurd q v,λ_=> .inr ⟨a9,rfl,a4⟩,λt V=>by rw[s1];exact z.ts t V,by omega⟩;clear p j z
      repeat' first|simp only[go_sem, *]|apply bc<;>intro D|(refine zA.mono (f _) ?_;rintro r h ⟨rfl,rfl⟩)
      exact⟨_,_,rfl,B⟩
 ·rintro fr h ec ⟨out,o,f2,f3,b3,b4,b5,f6,⟨hE,j,T,s,w,ad⟩⟩;have b7:l.drop l.length= []:=drop_length;rw[b7,mY] at j;obtain⟨X,cf⟩:=N out j.symm;have bx:zZ 1 (zl (out.map mkA)) o:=by
   by_cases v:k=3
   ·exact(T v).isSl
   ·rcases s v with⟨q,_⟩ | ⟨_,q,_⟩
    ·omega
    ·rw[q];exact zZ.mk .no
  have G:=dw bx (by simpa using X.ne) (by rw[length_map];omega) (Z5 X.ts ow);rw[FI] at G;have L:=λr hr=>Li X.min.ne (r:=r) hr;have a0:(yi out).length<=1048576:=le_trans (o8 _) ow;have f:=V7 a0;rw[jK] at f;have m:=p _ hE;rw[<-j] at m;simp only at m;clear p N T s w X bx F z a3 j;generalize yi out=M at *
  repeat' first|simp only[go_sem, *]|apply bc<;>intro D
  refine(G _).mono ?_;rintro r h3 ⟨b9,hr⟩;subst b9;have hr:=L r hr;subst hr;clear G L;cases hz:szd M with
  |none=>
   rw[hz] at f m;simp only[bA] at m f
   repeat' first|simp only[go_sem, *]|apply bc<;>intro D|(refine zA.mono (f _) ?_;rintro r h ⟨rfl,rfl⟩)
  |some M'=>
   rw[hz] at f m;simp only[bA] at m f
   repeat' first|simp only[go_sem, *]|apply bc<;>intro D|(refine zA.mono (f _) ?_;rintro r h ⟨rfl,rfl⟩)
def ofD (c:Cat) (e:Ex):D:=if(tL c e==0)=true then nf c e else .tuple [.nilsl, .int .i64 (tL c e)]
def Dm (i:yy c d) (o:c.Sm) (k:e.Ok) (m:e.size<=1048576) (g:Heap):
  zA prog 44 [d, .agg e.cells] g λr h'=>h'=g/\r=ofD c e:=by
 have b:=dX i o k m;have j:=λ(h:tL c e=0)=>Lj i o e.size e (le_refl _) (RO h).2.1 (RO h).2.2 k;obtain⟨ca,cb,ce,cp,rfl,_,_,_,_⟩:=i;refine xP λQ p=> ?_;have f:=p (ofD c e) g ⟨rfl,rfl⟩;unfold ofD at f;simp only[Ex.cells] at b j⊢;refine xO mix func44 zHs rfl rfl ?_;simp only[f44,gJ];cases q:(tL c e==0) with
 |false=>
  rw[iq (by rw[q];exact Bool.false_ne_true)] at f
  repeat' first|simp only[go_sem, *]|apply bc<;>intro i|(refine zA.mono (b _) ?_;rintro r h ⟨rfl,rfl⟩)
 |true=>
  rw[ip q] at f;have a:=j (by simpa using q);unfold nf at f a;cases n:kA c e with
  |none=>
   rw[n] at f a;simp only[bA] at f a
   repeat' first|simp only[go_sem, *]|apply bc<;>intro i|(refine zA.mono (b _) ?_;rintro r h ⟨rfl,rfl⟩)|(refine zA.mono (a _) ?_;rintro r h ⟨rfl,rfl⟩)
  |some l=>
   rw[n] at f a;simp only[bA] at f a
   repeat' first|simp only[go_sem, *]|apply bc<;>intro i|(refine zA.mono (b _) ?_;rintro r h ⟨rfl,rfl⟩)|(refine zA.mono (a _) ?_;rintro r h ⟨rfl,rfl⟩)
def V9 (l:List (List Trm)):D:= .sl 1 (zl (l.map mkA)) .no
def Z6 (l:List (List (List Trm))):List (List D):=l.map λa=>[V9 a]
def rJ (l:List (List (List Trm))):(Z6 l).length=l.length:=List.length_map ..
def Im {l:List (List (List Trm))} (h:i<l.length):(Z6 l)[i]? =some [V9 l[i]]:=by simp[Z6,h]
def In (l:List (List (List Trm))):∀x∈Z6 l,x.length=1:=λx a=>by
 obtain⟨s,_,rfl⟩:=List.mem_map.1 a;rfl
def Qi (l:List (List (List Trm))):∀x∈Z6 l,yj x:=λx b=>by
 obtain⟨s,_,rfl⟩:=List.mem_map.1 b;obtain⟨h1,a⟩:=aR s;exact⟨rfl,by simp only[zf];exact⟨a,trivial⟩,by simp only[zw,V9];rw[h1]⟩
def py {l:List (List (List Trm))} (a:zZ 1 (Z6 l) d) (h:Heap):tu prog 61 d h=some (.int .i64 l.length):=by rw[yc a underlying61,rJ]
def Z7 {l:List (List (List Trm))} (a:zZ 1 (Z6 l) d) (b:i<l.length):zR prog 61 d (.int .i64 (i:Int))=some (.iptr [V9 l[i]] 0):=za a nN lM (Im b)
def rK (c:Cat) (e:Ex):Int:=if(tL c e==0)=true then(match kA c e with
 |some _=>0
 |none=>10) else tL c e
def ofL (c:Cat) (e:Ex):List (List Trm):=(kA c e).getD []
abbrev zGa:=List (List (List Trm)) ×List (List UInt8) ×Int
def mC (c:Cat):List Fac->List (List (List Trm))->List (List UInt8)->zGa
 | [],t,o=>(t,o,0)
 |f::fs,t,o=>if(f.kind==1)=true then(if(rK c f.e==0)=true then mC c fs (t++ [ofL c f.e]) o else([],[],rK c f.e))
  else if(f.kind==2)=true then mC c fs t (if(o.any (· ==f.out))=true then o else o++ [f.out]) else mC c fs t o
def zM (c:Cat) (l:List Fac):zGa:=if(!((yS c l).2==0))=true then([],[],(yS c l).2) else mC c l [] []
def zB3 (h:(rK c e==0)=true):ofD c e= .tuple [V9 (ofL c e), .int .i64 0]:=by
 unfold rK at h;unfold ofD ofL nf;split at h
 ·rename_i q;rw[ip q];split at h
  ·rename_i l a;rw[a];rfl
  ·exact absurd h (by decide)
 ·rename_i q;exact absurd h q
def Dn (h:(rK c e==0)=false):ofD c e= .tuple [.nilsl, .int .i64 (rK c e)]:=by
 unfold rK at h⊢;unfold ofD nf;split at h
 ·rename_i q;rw[ip q,ip q];split at h
  ·exact absurd h (by decide)
  ·rename_i a;rw[a];rfl
 ·rename_i q;rw[iq q,iq q]
def Do (a:List (List Trm)) (nid:Nat) (h:Heap):zI prog false nid 61 1 [(0,V9 a)] h=some (.sl 1 [[V9 a]] .full,h):=
 zz (P:=prog) (x:=V9 a) nN Uv lM rfl rfl ow ow rfl rfl
structure ValI (c:Cat) (l:List Fac) (R:zGa) (g:Heap) (i:Nat) (t:List (List (List Trm))) (o:List (List UInt8)) (td od:D) (h:Heap):Prop where
 own:Own2 g h 1 (Z6 t) td 1 (yV o) od
 eq:mC c (l.drop i) t o=R
 tl:t.length<=i
 ol:o.length<=i
theorem Z8 (q:yy c d) (hs:c.Sm) {l:List Fac} (X:zZ 12 (nQ l) x) (hl:l.length<=1048576) (w:∀f∈l,f.Ok) (g:Heap):
  zA prog 20 [d,x] g λr h'=>h'=g/\∃td od,r= .tuple [td,od, .int .i64 (zM c l).2.2]/\Fin 1 (Z6 (zM c l).1) td/\Fin 1 (yV (zM c l).2.1) od:=by
 have z:=Vy q hs X hl w;have T:=λf (hf:f∈l)=>Dm q hs (w f hf).e (w f hf).es;have Z:=tU X;have ag:=ou;obtain⟨ca,cb,ce,cp,rfl,_,_,_,_⟩:=q;refine xU kr λad=>xS ?_;refine xP λQ I=> ?_;have P:=Own2.start (Ext.refl g) 1 1;refine xO mix func20 zHr rfl rfl ?_;simp only[f20,gJ];cases q1:((yS c l).2==0) with
 |false=>
  have C:zM c l=([],[],(yS c l).2):=by unfold zM;rw[q1];rfl
  have y:=I (.tuple [.nilsl, .nilsl, .int .i64 (yS c l).2]) g ⟨Ext.refl g,by simp[zj,zw,below,zf], .nilsl, .nilsl,by rw[C];rfl, .inl ⟨rfl,by rw[C];rfl⟩, .inl ⟨rfl,by rw[C];rfl⟩⟩
  repeat' first|simp only[go_sem, *]|apply bc<;>intro q|(refine zA.mono (z _) ?_;rintro r h ⟨rfl,rfl⟩)
 |true=>
 have C:zM c l=mC c l [] []:=by unfold zM;rw[q1];rfl
 obtain⟨R,Y⟩:∃R,mC c l [] []=R:=⟨_,rfl⟩;rw[C,Y] at I
 repeat' first|simp only[go_sem, *]|apply bc<;>intro q|(refine zA.mono (z _) ?_;rintro r h ⟨y,rfl⟩)
 refine zD (λi fr h=>∃t o td od,fr 2= .iptr [ca,cb,ce,cp] 0/\fr 24=x/\fr 25= .int .i64 (l.length:Int)/\fr 26= .int .i64 (i:Int)/\fr 9=td/\fr 10=od/\ValI c l R g i t o td od h) l.length ow ?_ ?_ ?_
 ·have h0:ValI c l R g 0 [] [] .nilsl .nilsl g:=⟨P,Y,Nat.le_refl _,Nat.le_refl _⟩;simp only[go_sem,true_and,and_true,Int.ofNat_zero];exact⟨_,_,_,_,rfl,rfl,h0⟩
 ·clear z;rintro i fr u v ec ew ⟨t,o,td,od,f2,M,N,O,f9,L,⟨n,m,W,U⟩⟩;have a1:=qd X v;have S:=w _ (List.getElem_mem v);have s:=T _ (List.getElem_mem v);have V:=Xp S u u.next;rw[List.drop_eq_getElem_cons v,mC] at m;have G:(u.new u.next (.row l[i].cells)).at' u.next=some (.row l[i].cells):=zK _ _ _;have j:=n.ext ((Ext.refl u).new (Nat.le_refl _) (.row l[i].cells));have p:=λ(h:Heap)=>pj n.b.isSl (by omega:o.length<=1048576) l[i].out h;generalize l[i]=f at *
  simp only[Fac.cells,Ex.cells] at a1 V G j s;generalize hH:u.new u.next (.row [.int .i64 f.kind, .str f.comp, .str f.out, .int .i64 f.rel, .int .i64 f.way, .int .i64 f.duty, .bool f.chg, .int .i64 f.e.kind, .str f.e.name, .str f.e.exc,f.e.d,f.d])=H at *
  have ai:zN true 4 [.int .i64 f.kind, .str f.comp, .str f.out, .int .i64 f.rel, .int .i64 f.way, .int .i64 f.duty, .bool f.chg, .int .i64 f.e.kind, .str f.e.name, .str f.e.exc,f.e.d,f.d] 7=some (.agg [.int .i64 f.e.kind, .str f.e.name, .str f.e.exc,f.e.d]):=rfl;cases q2:(f.kind==1) with
  |true=>
   rw[ip q2] at m;cases B:(rK c f.e==0) with
   |true=>
    rw[ip B] at m;rw[zB3 B] at s;have F:=Do (ofL c f.e)
    repeat' first|simp only[go_sem, *]|apply bc<;>intro q|(refine zA.mono (s _) ?_;rintro r h ⟨y,rfl⟩)
    subst y;refine j.appH (zs:=Z6 [ofL c f.e]) nN Ps lM ow (In _) (by simp[Z6]) (by rw[rJ,rJ,Y9];unfold lim;simp;omega) (by rw[rJ,rJ];unfold lim;simp;omega) λK h' A=> ?_;have k:ValI c l R g (i+1) (t++ [ofL c f.e]) o K od h':=⟨by
     have:Z6 (t++ [ofL c f.e])=Z6 t++Z6 [ofL c f.e]:=by simp[Z6]
     rw[this];exact A,m,by simp;omega,by omega⟩
    repeat' first|simp only[go_sem, *]|apply bc<;>intro q
    exact⟨_,_,_,_,rfl,rfl,k⟩
   |false=>
    rw[iq (by rw[B];exact Bool.false_ne_true)] at m;rw[Dn B] at s;have y:=I (.tuple [.nilsl, .nilsl, .int .i64 (rK c f.e)]) H ⟨j.a.1,by simp[zj,zw,below,zf], .nilsl, .nilsl,by rw[<-m];rfl, .inl ⟨rfl,by rw[<-m];rfl⟩, .inl ⟨rfl,by rw[<-m];rfl⟩⟩
    repeat' first|simp only[go_sem, *]|apply bc<;>intro q|(refine zA.mono (s _) ?_;rintro r h ⟨rfl,rfl⟩)
  |false=>
   rw[iq (by rw[q2];exact Bool.false_ne_true)] at m;cases B:(f.kind==2) with
   |true=>
    rw[ip B] at m;cases J:(o.any (· ==f.out)) with
    |true=>
     rw[ip J] at m;rw[J] at p;have k:ValI c l R g (i+1) t o td od H:=⟨j,m,by omega,by omega⟩
     repeat' first|simp only[go_sem, *]|apply bc<;>intro q|(refine zA.mono (p _) ?_;rintro r h ⟨y,rfl⟩)
     subst y;exact⟨_,_,_,_,rfl,rfl,k⟩
    |false=>
     rw[iq (by rw[J];exact Bool.false_ne_true)] at m;rw[J] at p;have F:=oY f.out
     repeat' first|simp only[go_sem, *]|apply bc<;>intro q|(refine zA.mono (p _) ?_;rintro r h ⟨y,rfl⟩)
     subst y;refine j.swap.appH (zs:=yV [f.out]) yv jh uu ow Zm (by simp[yV]) (by rw[z8,tS];unfold lim;simp[yV];omega) (by rw[z8];unfold lim;simp[yV];omega) λK h' A=> ?_;have k:ValI c l R g (i+1) t (o++ [f.out]) td K h':=⟨by
      have:yV (o++ [f.out])=yV o++yV [f.out]:=by simp[yV]
      rw[this];exact A.swap,m,by omega,by simp;omega⟩
     repeat' first|simp only[go_sem, *]|apply bc<;>intro q
     exact⟨_,_,_,_,rfl,rfl,k⟩
   |false=>
    rw[iq (by rw[B];exact Bool.false_ne_true)] at m;have k:ValI c l R g (i+1) t o td od H:=⟨j,m,by omega,by omega⟩
    repeat' first|simp only[go_sem, *]|apply bc<;>intro q
    exact⟨_,_,_,_,rfl,rfl,k⟩
 ·rintro fr u ec ⟨t,o,td,od,f2,M,N,O,f9,L,⟨n,m,W,U⟩⟩;rw[List.drop_length,mC] at m;have D:=n.a.2.1.fin (Qi t);have E:=n.b.2.1.fin (qN (l:=o));have y:=I (.tuple [td,od, .int .i64 0]) u ⟨n.a.1,by
   simp only[zj,zw,below,zf];exact⟨zu (Nat.zero_le _) _ D.1,zu (Nat.zero_le _) _ E.1,trivial,trivial⟩,zj td,zj od,by rw[<-m];rfl,by rw[<-m];exact D.2,by rw[<-m];exact E.2⟩
  exact au
def X8 (a b:List Trm):Bool:=jv zS a b==0
def rZ (a b:List Trm):X8 a b=true↔a=b:=by
 unfold X8;constructor
 ·intro h;exact Zz l8 _ _ (by simpa using h)
 ·rintro rfl;simp[ox.list.refl]
def Dp (a b:Nat):((a:Int)==(b:Int))=(a==b):=by
 by_cases h:a=b
 ·simp[h]
 ·rw[beq_eq_false_iff_ne.2 h,beq_eq_false_iff_ne.2 ow]
def Dq (x y:Trm) (c:Bool):oG prog .neq 130 c (.agg [.str x.a, .str x.b]) (.agg [.str y.a, .str y.b])=some (.bool (!(zS x y==0))):=by
 have d:eqT prog 130=some [.s, .s]:=by kernel_rfl
 rw[nT];simp only[oG,d,Rj,eqK,Option.map_some,Bool.and_true,tX]
def Io {a b:List Trm} (B:zZ 2 (yX a) x) (C:zZ 2 (yX b) y) (K:a.length<=1048576) (g:Heap):
  zA prog 78 [x,y] g λr h'=>h'=g/\r= .bool (X8 a b):=by
 have L:=yw B;have M:=yw C;refine xP λQ s=> ?_;have j:=s _ _ ⟨rfl,rfl⟩;clear s;refine xO mix func78 zHj rfl rfl ?_;simp only[f78,gJ];cases q:((a.length:Int)==(b.length:Int)) with
 |false=>
  have p:X8 a b=false:=by
   cases h:X8 a b with
   |false=>rfl
   |true=>rw[(rZ _ _).1 h] at q;simp at q
  rw[p] at j;simp only[go_sem, *]
 |true=>
 have o:a.length<=b.length/\b.length<=a.length:=by have:=of_decide_eq_true q;omega
 obtain⟨t,w⟩:=o;simp only[go_sem, *];refine zD (λi fr h=>fr 0=x/\fr 1=y/\fr 12= .int .i64 (a.length:Int)/\fr 13= .int .i64 (i:Int)/\h=g/\a.take i=b.take i) a.length ow ?_ ?_ ?_
 ·simp only[go_sem,true_and,and_true,Int.ofNat_zero];rfl
 ·rintro i fr h f F J ⟨G,H,l,m,rfl,d⟩;have c:i<b.length:=ow;have D:=uk B f;have E:=uk C c;have z:=Dq a[i] b[i];have h1:∀ (e:(zS a[i] b[i]==0)=true),a.take (i+1)=b.take (i+1):=λe=>by
   have I:=l8 a[i] b[i] (by simpa using e);rw[List.take_succ_eq_append_getElem f,List.take_succ_eq_append_getElem c,d,I]
  have n:∀ (e:(zS a[i] b[i]==0)=false),X8 a b=false:=λe=>by
   cases h:X8 a b with
   |false=>rfl
   |true=>
    have:=(rZ _ _).1 h;subst this;rw[ox.refl] at e;exact absurd e (by decide)
  generalize a[i]=u at *
  generalize b[i]=v at *
  simp only[Trm.cells] at D E;cases k:(zS u v==0) with
  |true=>
   have A:=h1 k;rw[k] at z;clear h1 n d j;simp only[go_sem, *];refine zV kr ?_;simp only[go_sem, *]
  |false=>
   rw[n k] at j;rw[k] at z;clear h1 n d;simp only[go_sem, *];refine zV kr ?_;exact au
 ·rintro fr h F ⟨G,H,l,m,rfl,d⟩
  have:a=b:=by
   rw[List.take_length,show a.length=b.length by omega,List.take_length] at d;exact d
  rw[(rZ _ _).2 this] at j;clear d this;exact au
def zGb {a b:List Trm} (e:zZ 2 (yX a) x) (f:zZ 2 (yX b) y) (d:a.length<=1048576) (i:g.at' id=some (.row [x])):
  zA prog 77 [y, .ptr id 0] g λr h'=>h'=g/\r= .bool (X8 a b):=by
 have c:=Io e f d;refine xO mix func77 zHf rfl rfl ?_;simp only[f77,gJ]
 repeat' first|simp only[go_sem, *]|apply bc<;>intro c|(refine zA.mono (c _) ?_;rintro r h ⟨rfl,rfl⟩)
def X9 {l:List Lic} (n:zZ 4 (pn l) d) (C:l.length<=1048576) {p:Lic->Bool} (z:∀s∈l,zA prog f ([]++ [.agg s.cells]++cap) g λr h'=>h'=g/\r= .bool (p s)):
  zA prog 150 [d, .fn (.func f) [] cap] g λr h'=>h'=g/\r= .int .i64 (Ya p l):=by
 have o:=wX n;refine xO mix func150 zAH rfl rfl ?_;simp only[f150,gJ]
 repeat' first|simp only[go_sem, *]|apply bc<;>intro m
 refine zD (λi fr h=>fr 1= .fn (.func f) [] cap/\fr 0=d/\fr 6=d/\fr 7= .int .i64 (l.length:Int)/\fr 8= .int .i64 (i:Int)/\h=g/\∀j (b:j<l.length),j<i->p l[j]=false) l.length ow ?_ ?_ ?_
 ·simp only[go_sem,true_and,and_true,Int.ofNat_zero];exact λj b h0=>by omega
 ·rintro i fr h a e1 B ⟨u,t,v,w,x,rfl,b⟩;have q:=uO n a;have e:=z _ (List.getElem_mem a);simp only[List.nil_append,List.cons_append,Lic.cells] at e;simp only[Lic.cells] at q;cases k:p l[i] with
  |true=>
   have A:=oc a b k;rw[k] at e
   repeat' first|simp only[go_sem, *]|apply bc<;>intro m|(refine zA.mono e ?_;rintro r h ⟨rfl,rfl⟩)
  |false=>
   have y:=qT (p:=p) a b k;rw[k] at e
   repeat' first|simp only[go_sem, *]|apply bc<;>intro m|(refine zA.mono e ?_;rintro r h ⟨rfl,rfl⟩)
   exact y
 ·rintro fr h e1 ⟨u,t,v,w,x,rfl,b⟩;have A:=oe (p:=p) λj c=>b j c c;exact au
def d7 {l:List Lic} (b:zZ 4 (pn l) d) (e:l.length<=1048576) {p:Lic->Bool} (i:∀s∈l,zA prog f ([]++ [.agg s.cells]++cap) g λr h'=>h'=g/\r= .bool (p s)):
  zA prog 79 [d, .fn (.func f) [] cap] g λr h'=>h'=g/\r= .bool (l.any p):=by
 have a:=X9 b e i;have c:=mS (l:=l) (p:=p);refine xO mix func79 zHo rfl rfl ?_;simp only[f79,gJ]
 repeat' first|simp only[go_sem, *]|apply bc<;>intro j|(refine zA.mono a ?_;rintro r h ⟨rfl,rfl⟩)
def zGc (x:Lic) (s:List UInt8) (a:g.at' id=some (.row [.str s])):
  zA prog 80 [.agg x.cells, .ptr id 0] g λr h'=>h'=g/\r= .bool (x.name==s):=by
 refine xO mix func80 zHu rfl rfl ?_;simp only[f80,gJ];simp only[Lic.cells];exact au
structure Cho where
 ts:List Alt
 own:List (List UInt8)
structure Alt.Sm (a:Alt):Prop where
 sl:zZ 2 (yX a.ts) a.d
 len:a.ts.length<=1048576
def Dr (y:Cho) (d:D):Prop:=∃a b,d= .agg [a,b]/\zZ 1 (zl y.ts) a/\zZ 1 (yV y.own) b
structure Cho.Sm (y:Cho):Prop where
 tl:y.ts.length<=1048576
 ol:y.own.length<=1048576
 ts:∀a∈y.ts,a.Sm
def t7 (v:List (List (List Trm))) (ts:List Alt) (p:Bool) (i:Nat):Int:=match ts[i]? with
 |none=>0
 |some a=>if(p&&((a.ts.length:Int)==0))=true then 0 else if(!((v.getD i []).any λb=>X8 a.ts b))=true then 1 else 0
def Wq (c:Cat) (own:List (List UInt8)) (p:Bool) (i:Nat):Int:=match own[i]? with
 |none=>0
 |some s=>if(p&&(s== []))=true then 0 else if(!(c.ls.any λx=>x.name==s))=true then 7 else 0
def yq (c:Cat) (l:List Fac) (y:Cho) (p:Bool):Int:=
 if(!((zM c l).2.2==0))=true then(zM c l).2.2
 else if(!((y.ts.length:Int)==((zM c l).1.length:Int))|| !((y.own.length:Int)==((zM c l).2.1.length:Int)))=true then 9
 else if(!(p8 (t7 (zM c l).1 y.ts p) y.ts.length==0))=true then p8 (t7 (zM c l).1 y.ts p) y.ts.length
 else p8 (Wq c y.own p) y.own.length
def zB4 (h:(rK c e==0)=true):(ofL c e).length<=64/\AltsOk 64 (ofL c e):=by
 unfold rK at h;unfold ofL;split at h
 ·rename_i q;obtain⟨_,b,h3⟩:=RO (show tL c e=0 by simpa using q);split at h
  ·rename_i l a;have:=(V8 (c:=c) e.size).1 e (Nat.le_refl _) h3 l a;rw[a];exact⟨this.1,this.2.mono b⟩
  ·exact absurd h (by decide)
 ·rename_i q;exact absurd h q
theorem Z9:∀ {l:List Fac} {t:List (List (List Trm))} {o:List (List UInt8)},(∀a∈t,a.length<=64/\AltsOk 64 a)->∀a∈(mC c l t o).1,a.length<=64/\AltsOk 64 a
 | [],t,o,h=>by rw[mC];exact h
 |f::fs,t,o,h=>by
  rw[mC];split
  ·split
   ·rename_i q;exact Z9 λa b=>by
     rcases List.mem_append.1 b with g|g
     ·exact h a g
     ·cases List.mem_singleton.1 g;exact zB4 q
   ·intro a b;cases b
  ·split
   ·exact Z9 h
   ·exact Z9 h
def uA {l:List Fac} :∀a∈(zM c l).1,a.length<=64/\AltsOk 64 a:=by
 unfold zM;split
 ·intro a b;cases b
 ·exact Z9 λa b=>by cases b
theorem YA (C:yy c d) (hs:c.Sm) {l:List Fac} (hx:zZ 12 (nQ l) x) (hl:l.length<=1048576) (a6:∀f∈l,f.Ok) {y:Cho} (hy:Dr y z) (a9:y.Sm) (p:Bool) (g:Heap):
  zA prog 39 [d,x,z, .bool p] g λr h'=>h'=g/\r= .int .i64 (yq c l y p):=by
 have V:=Z8 C hs hx hl a6;have bk:=C;obtain⟨ca,cb,ce,cp,rfl,a4,_,_,_⟩:=C;obtain⟨ya,yb,rfl,P,hb⟩:=hy;obtain⟨y1,y2,y3⟩:=a9;have bs:=qj P;have bx:=yQ hb;refine xU kr λba=> ?_;refine xP λQ hQ=> ?_;obtain⟨E,w⟩:∃E,yq c l y p=E:=⟨_,rfl⟩;have m:∀h',Ext g h'->Q (.int .i64 E) h':=λh' I=>hQ _ _ ⟨I,trivial,by rw[w]⟩;clear hQ;unfold yq at w;refine xO mix func39 zHQ rfl rfl ?_;simp only[f39,gJ]
 repeat' first|simp only[go_sem, *]|apply bc<;>intro C
 refine(V _).mono ?_;rintro r h ⟨B,td,od,rfl,J,M⟩;subst B;clear V;have X:=Ext.refl h;have J:zZ 1 (Z6 (zM c l).1) td:=J.isSl;have M:zZ 1 (yV (zM c l).2.1) od:=M.isSl;have a5:=py J;have bo:=yQ M;have a8:∀a∈(zM c l).1,a.length<=1048576:=λa P=>Nat.le_trans (uA a P).1 ow;cases q1:((zM c l).2.2==0) with
 |false=>
  rw[ip (by rw[q1];rfl)] at w;have B:=m h X;rw[<-w] at B;clear m w
  repeat' first|simp only[go_sem, *]|apply bc<;>intro C
 |true=>
 rw[iq (by rw[q1];decide)] at w;generalize zM c l=v at *
 cases R:((y.ts.length:Int)==(v.1.length:Int)) with
 |false=>
  rw[ip (by rw[R];rfl)] at w;have B:=m h X;rw[<-w] at B;clear m w
  repeat' first|simp only[go_sem, *]|apply bc<;>intro C
 |true=>
 cases q3:((y.own.length:Int)==(v.2.1.length:Int)) with
 |false=>
  rw[ip (by rw[R,q3];rfl)] at w;have B:=m h X;rw[<-w] at B;clear m w
  repeat' first|simp only[go_sem, *]|apply bc<;>intro C
 |true=>
 rw[iq (by rw[R,q3];decide)] at w;have T:y.ts.length<=v.1.length:=by have:=of_decide_eq_true R;omega
 obtain⟨F,S⟩:∃F,p8 (t7 v.1 y.ts p) y.ts.length=F:=⟨_,rfl⟩;rw[S] at w
 repeat' first|simp only[go_sem, *]|apply bc<;>intro C
 clear q1;refine zD (λi fr u=>fr 3= .bool p/\fr 4= .iptr [ca,cb,ce,cp] 0/\fr 6= .iptr [ya,yb] 0/\fr 9=td/\fr 41=ya/\fr 42= .int .i64 (y.ts.length:Int)/\fr 43= .int .i64 (i:Int)/\Ext h u/\∀j,j<i->t7 v.1 y.ts p j=0) y.ts.length ow ?_ ?_ ?_
 ·have h0:∀j,j<0->t7 v.1 y.ts p j=0:=λj D=>absurd D (Nat.not_lt_zero _);simp only[go_sem,true_and,and_true,Int.ofNat_zero];exact⟨X,h0⟩
 ·rintro i fr u G ec ew ⟨Y,Z,f6,f9,ad,ag,ai,I,D⟩;have a1:=tM P G;have a2:=Z7 J (show i<v.1.length by omega);have sm:=y3 _ (List.getElem_mem G);have k:t7 v.1 y.ts p i=if(p&&((y.ts[i].ts.length:Int)==0))=true then 0 else if(!(v.1[i].any λb=>X8 y.ts[i].ts b))=true then 1 else 0:=by
   unfold t7;rw[List.getElem?_eq_getElem G];simp only;rw[List.getD_eq_getElem?_getD,List.getElem?_eq_getElem ow];rfl
  have q:=λ(e:t7 v.1 y.ts p i=0)=>wx (f:=t7 v.1 y.ts p) D e;have o:=λ(e:t7 v.1 y.ts p i≠0)=>pp (f:=t7 v.1 y.ts p) G D e;rw[S] at o;have N:(u.new u.next (.row [y.ts[i].d])).at' u.next=some (.row [y.ts[i].d]):=zK _ _ _;have K:=I.new I.1 (.row [y.ts[i].d]);have n:=oy (l:=v.1[i].map mkA) (d:=V9 v.1[i]) (zZ.mk .no) (by rw[List.length_map];exact a8 _ (List.getElem_mem _)) (f:=77) (cap:=[.ptr u.next 0]) (p:=λb=>X8 y.ts[i].ts b.ts) (g:=u.new u.next (.row [y.ts[i].d])) (λs hs=>by
   obtain⟨t,ht,rfl⟩:=List.mem_map.1 hs;exact⟨zZ.mk .no,zGb sm.sl (zZ.mk .no) sm.len N⟩)
  have O:(v.1[i].map mkA).any (λb=>X8 y.ts[i].ts b.ts)=v.1[i].any λb=>X8 y.ts[i].ts b:=by rw[List.any_map];rfl
  rw[O] at n;clear O;obtain⟨k1,k2,k3⟩:=zJ sm.sl;have b1:=yw sm.sl;generalize y.ts[i]=a at *
  generalize v.1[i]=b at *
  have a7:zQ prog 128 (.ptr u.next 0) a.d (u.new u.next (.row [.nilsl]))=some (u.new u.next (.row [a.d])):=by
   rw[zT (off:=0) (zK _ _ _) yu (by simp) k1 k3,mP];rfl
  have bb:(V9 b).notTuple=true:=rfl;generalize u.new u.next (.row [a.d])=H at *
  clear D S P hb J M y3 sm R q3;cases U:p with
  |true=>
   subst U;cases W:((a.ts.length:Int)==0) with
   |true=>
    have L:=q (by rw[k,W];rfl);clear q o k n m w
    repeat' first|simp only[go_sem, *]|apply bc<;>intro C
    exact L
   |false=>
    rw[iq (by rw[W];decide)] at k;cases A:(b.any λt=>X8 a.ts t) with
    |true=>
     have L:=q (by rw[k,A];rfl);rw[A] at n;clear q o k m w
     repeat' first|simp only[go_sem, *]|apply bc<;>intro C|(refine zA.mono n ?_;rintro r h ⟨B,rfl⟩)
     subst B;exact L
    |false=>
     have h1:F=1:=by rw[o (by rw[k,A];decide),k,A];rfl
     subst h1;rw[ip (by decide)] at w;have B:=m H K;rw[<-w] at B;rw[A] at n;clear q o k m w
     repeat' first|simp only[go_sem, *]|apply bc<;>intro C|(refine zA.mono n ?_;rintro r h ⟨rfl,rfl⟩)
  |false=>
   subst U;rw[iq (by rw[Bool.false_and];decide)] at k;cases A:(b.any λt=>X8 a.ts t) with
   |true=>
    have L:=q (by rw[k,A];rfl);rw[A] at n;clear q o k m w
    repeat' first|simp only[go_sem, *]|apply bc<;>intro C|(refine zA.mono n ?_;rintro r h ⟨B,rfl⟩)
    subst B;exact L
   |false=>
    have h1:F=1:=by rw[o (by rw[k,A];decide),k,A];rfl
    subst h1;rw[ip (by decide)] at w;have B:=m H K;rw[<-w] at B;rw[A] at n;clear q o k m w
    repeat' first|simp only[go_sem, *]|apply bc<;>intro C|(refine zA.mono n ?_;rintro r h ⟨rfl,rfl⟩)
 ·rintro fr u ec ⟨Y,Z,f6,f9,ad,ag,ai,I,D⟩;have a3:F=0:=by rw[<-S];exact qZ D
  subst a3;rw[iq (by decide)] at w;clear S D J a5 T R q3
  repeat' first|simp only[go_sem, *]|apply bc<;>intro C
  refine zD (λi fr u=>fr 3= .bool p/\fr 4= .iptr [ca,cb,ce,cp] 0/\fr 63=yb/\fr 64= .int .i64 (y.own.length:Int)/\fr 65= .int .i64 (i:Int)/\Ext h u/\∀j,j<i->Wq c y.own p j=0) y.own.length ow ?_ ?_ ?_
  ·have h0:∀j,j<0->Wq c y.own p j=0:=λj D=>absurd D (Nat.not_lt_zero _);simp only[go_sem,true_and,and_true,Int.ofNat_zero];exact⟨Y,Z,I,h0⟩
  ·clear I;rintro i fr u G ec ew ⟨Y,Z,ak,f64,a0,I,D⟩;have a1:=wU hb G;have k:Wq c y.own p i=if(p&&(y.own[i]== []))=true then 0 else if(!(c.ls.any λx=>x.name==y.own[i]))=true then 7 else 0:=by
    unfold Wq;rw[List.getElem?_eq_getElem G]
   have q:=λ(e:Wq c y.own p i=0)=>wx (f:=Wq c y.own p) D e;have o:=λ(e:Wq c y.own p i≠0)=>pp (f:=Wq c y.own p) G D e;rw[w] at o;generalize y.own[i]=s at *
   have N:(u.new u.next (.row [.str s])).at' u.next=some (.row [.str s]):=zK _ _ _;have K:=I.new I.1 (.row [.str s]);have n:=d7 a4 hs.ls.1 (f:=80) (cap:=[.ptr u.next 0]) (p:=λx=>x.name==s) (g:=u.new u.next (.row [.str s])) (λx _=>zGc x s N);have a7:zQ prog 9 (.ptr u.next 0) (.str s) (u.new u.next (.row [.str []]))=some (u.new u.next (.row [.str s])):=by
    rw[zT (off:=0) (zK _ _ _) uu (by simp) rfl rfl,mP];rfl
   generalize u.new u.next (.row [.str s])=H at *
   clear D w P hb M y3;cases U:p with
   |true=>
    subst U;cases W:(s== []) with
    |true=>
     have L:=q (by rw[k,W];rfl);clear q o k n m
     repeat' first|simp only[go_sem, *]|apply bc<;>intro C
     exact L
    |false=>
     rw[iq (by rw[W];decide)] at k;cases A:(c.ls.any λx=>x.name==s) with
     |true=>
      have L:=q (by rw[k,A];rfl);rw[A] at n;clear q o k m
      repeat' first|simp only[go_sem, *]|apply bc<;>intro C|(refine zA.mono n ?_;rintro r h ⟨B,rfl⟩)
      subst B;exact L
     |false=>
      have h1:E=7:=by rw[o (by rw[k,A];decide),k,A];rfl
      subst h1;have B:=m H K;rw[A] at n;clear q o k m
      repeat' first|simp only[go_sem, *]|apply bc<;>intro C|(refine zA.mono n ?_;rintro r h ⟨rfl,rfl⟩)
   |false=>
    subst U;rw[iq (by rw[Bool.false_and];decide)] at k;cases A:(c.ls.any λx=>x.name==s) with
    |true=>
     have L:=q (by rw[k,A];rfl);rw[A] at n;clear q o k m
     repeat' first|simp only[go_sem, *]|apply bc<;>intro C|(refine zA.mono n ?_;rintro r h ⟨B,rfl⟩)
     subst B;exact L
    |false=>
     have h1:E=7:=by rw[o (by rw[k,A];decide),k,A];rfl
     subst h1;have B:=m H K;rw[A] at n;clear q o k m
     repeat' first|simp only[go_sem, *]|apply bc<;>intro C|(refine zA.mono n ?_;rintro r h ⟨rfl,rfl⟩)
  ·clear I;rintro fr u ec ⟨Y,Z,ak,f64,a0,I,D⟩;have h1:E=0:=by rw[<-w];exact qZ D
   subst h1;have B:=m u I;clear D m w;exact au
def WA (l:List Int):∀x∈yr l,x.length=1:=λx a=>by
 obtain⟨s,_,rfl⟩:=mem_map.1 a;rfl
def d9 (l:List Int):∀x∈yr l,yj x:=λx a=>by
 obtain⟨s,_,rfl⟩:=mem_map.1 a;exact⟨rfl,by simp[zf,below],rfl⟩
def RS (n:Int) (nid:Nat) (h:Heap):zI prog false nid 45 1 [(0, .int .i64 n)] h=some (.sl 1 [[.int .i64 n]] .full,h):=
 zz (P:=prog) (x:= .int .i64 n) yI uf wY rfl rfl ow ow rfl rfl
def Qj (c:Cat) (t:List (List (List Trm))) (o:List (List UInt8)) (cs:List D):Prop:=∃td od a b e p,cs= [td,od,a,b,e,p]/\zZ 1 (Z6 t) td/\zZ 1 (yV o) od/\yy c (.agg [a,b,e,p])
def bB (c:Cat) (t:List (List (List Trm))) (o:List (List UInt8)):List Nat:=t.map List.length++o.map λ_=>c.ls.length
def jL (l:List Nat):List Int:=l.map λ(n:Nat)=>(n:Int)
def WB (l:List Int) (n:Int):yr (l++ [n])=yr l++yr [n]:=by simp[yr]
def FJ (a b c d e f:D):zN true 6 [a,b,c,d,e,f] 0=some (.agg [a,b,c,d,e,f]):=zB rfl ow
def Lk {t:List (List (List Trm))} {o:List (List UInt8)} (S:Qj c t o cs) (hs:c.Sm) (V:t.length<=1048576) (U:o.length<=1048576) (g:Heap):
  zA prog 198 [.agg cs] g λr h'=>h'=g/\Fin 1 (yr (jL (bB c t o))) r:=by
 obtain⟨td,od,a,b,e,p,rfl,B,I,R⟩:=S;obtain⟨_,_,_,_,H,v,_,_,_⟩:=R;cases H;have l1:=py B;have l2:=yQ I;have l3:=wX v;have K:=λ(x:List (List Trm)) (h:Heap)=>qj (l:=x.map mkA) (d:=V9 x) (zZ.mk .no) h;have W:∀ (x:List (List Trm)) (h:Heap),tu prog 30 (V9 x) h=some (.int .i64 (x.length:Int)):=λx h=>by have:=K x h;rwa [length_map] at this
 clear K;refine xU kr λJ=>xS ?_;refine xP λQ A=> ?_;have G:=Own.start (Ext.refl g) 1;refine xO mix func198 Af rfl rfl ?_;simp only[f198,gJ];simp only[go_sem, *];refine zD (λi fr h=>∃s,fr 1= .iptr [td,od,a,b,e,p] 0/\fr 7=td/\fr 8= .int .i64 (t.length:Int)/\fr 9= .int .i64 (i:Int)/\fr 3=s/\Own g h 1 (yr (jL ((t.take i).map List.length))) s) t.length ow ?_ ?_ ?_
 ·simp only[go_sem,true_and,and_true,Int.ofNat_zero];exact⟨_,rfl,G⟩
 ·rintro i fr h q C M ⟨s,y,N,O,P,z,f⟩;have X:=Z7 B q;have Y:=W t[i];have n:jL ((t.take (i+1)).map List.length)=jL ((t.take i).map List.length)++ [(t[i].length:Int)]:=by rw[take_succ_eq_append_getElem q,map_append];simp only[jL,map_append];rfl
  have k:(jL ((t.take i).map List.length)).length=i:=by simp[jL];omega
  rw[n];clear n;generalize t[i]=x at *
  generalize jL ((t.take i).map List.length)=pre at *
  have w:=RS (x.length:Int);have T:(V9 x).notTuple=true:=rfl;clear A B I v;simp only[go_sem, *];refine f.appH (ys:=yr [(x.length:Int)]) yI bj wY ow (WA _) (by simp[yr]) (by rw[yA,nM,k];unfold lim;simp[yr];omega) (by rw[yA,k];unfold lim;simp[yr];omega) λL h' m=> ?_;rw[<-WB] at m;clear f;simp only[go_sem, *];exact⟨_,rfl,m⟩
 ·rintro fr h C ⟨s,y,N,O,P,z,f⟩;rw[take_length] at f;have u:∀j,jL (t.map List.length++(o.take j).map λ_=>c.ls.length)=jL (t.map List.length)++jL ((o.take j).map λ_=>c.ls.length):=λj=>by simp[jL]
  simp only[go_sem, *];refine zD (λi fr h=>∃s,fr 1= .iptr [td,od,a,b,e,p] 0/\fr 20=od/\fr 21= .int .i64 (o.length:Int)/\fr 22= .int .i64 (i:Int)/\fr 3=s/\Own g h 1 (yr (jL (t.map List.length++(o.take i).map λ_=>c.ls.length))) s) o.length ow ?_ ?_ ?_
  ·have h0:Own g h 1 (yr (jL (t.map List.length++(o.take 0).map λ_=>c.ls.length))) s:=by simpa using f
   simp only[go_sem,true_and,and_true,Int.ofNat_zero];exact⟨s,y,z,h0⟩
  ·clear f;rintro i fr h q C M ⟨s,y,D,E,F,z,f⟩;have n:jL (t.map List.length++(o.take (i+1)).map λ_=>c.ls.length)=jL (t.map List.length++(o.take i).map λ_=>c.ls.length)++ [(c.ls.length:Int)]:=by rw[take_succ_eq_append_getElem q,map_append,<-append_assoc];simp only[jL,map_append];rfl
   have k:(jL (t.map List.length++(o.take i).map λ_=>c.ls.length)).length=t.length+i:=by simp[jL];omega
   rw[n];clear n u;generalize jL (t.map List.length++(o.take i).map λ_=>c.ls.length)=pre at *
   have w:=RS (c.ls.length:Int);clear A B I v;simp only[go_sem, *];refine f.appH (ys:=yr [(c.ls.length:Int)]) yI bj wY ow (WA _) (by simp[yr]) (by rw[yA,nM,k];unfold lim;simp[yr];omega) (by rw[yA,k];unfold lim;simp[yr];omega) λL h' m=> ?_;rw[<-WB] at m;clear f;simp only[go_sem, *];exact⟨_,rfl,m⟩
  ·clear f;rintro fr h C ⟨s,y,D,E,F,z,f⟩;rw[take_length] at f;have hf:=f.2.1.fin (d9 _);have Z:=A s h ⟨f.1,zu (zero_le _) _ hf.1,hf.2⟩;clear A f hf u;exact au
def JA:List Nat->Nat->Nat
 | [],n=>n
 |r::rs,n=>if n*r>4096 then n*r else JA rs (n*r)
def Qk (l:List Nat):Nat:=if l.any (· ==0) then 0 else JA l 1
def Ll {t:List (List (List Trm))} {o:List (List UInt8)} (M:Qj c t o cs) (O:c.Sm) (ad:t.length<=524288) (Y:o.length<=524288) (hr:∀x∈t,x.length<=1048576) (g:Heap):
  zA prog 117 [.agg cs] g λr h'=>h'=g/\r= .int .i64 ((Qk (bB c t o):Nat):Int):=by
 have H:=Lk M O ow ow;obtain⟨td,od,a,b,e,p,rfl,ht,ho,u⟩:=M;have h6:=FJ;have I:∀r∈bB c t o,r<=1048576:=λr G=>by
  rcases mem_append.1 G with q|q
  ·obtain⟨x,P,rfl⟩:=mem_map.1 q;exact hr x P
  ·obtain⟨x,P,rfl⟩:=mem_map.1 q;exact O.ls.1
 have W:(bB c t o).length<=1048576:=by simp[bB];omega
 refine xP λQ V=> ?_;have f:=V _ _ ⟨rfl,rfl⟩;unfold Qk at f;generalize bB c t o=L at *
 refine xO mix func117 Ab rfl rfl ?_;simp only[f117,gJ]
 repeat' first|simp only[go_sem, *]|apply bc<;>intro u
 refine(H _).mono ?_;rintro r h ⟨F,hf⟩;subst F;have k:=hf.isSl;have E:(jL L).length=L.length:=by simp[jL]
 have d:=dV k ow 0;have l:=sQ k;rw[E] at l;have B:((jL L).any λx=>x==0)=L.any (· ==0):=by
  rw[jL,any_map];congr 1
  funext x
  exact Dp x 0
 rw[B] at d;cases q:L.any (· ==0) with
 |true=>
  rw[ip q] at f;have Z:Q (.int .i64 0) h:=f;rw[q] at d
  repeat' first|simp only[go_sem, *]|apply bc<;>intro u|(refine zA.mono (d _) ?_;rintro r h ⟨rfl,rfl⟩)
 |false=>
 rw[iq (by rw[q];exact Bool.false_ne_true)] at f;rw[q] at d;obtain⟨R,J⟩:∃R,JA L 1=R:=⟨_,rfl⟩;rw[J] at f
 repeat' first|simp only[go_sem, *]|apply bc<;>intro u|(refine zA.mono (d _) ?_;rintro r h ⟨F,rfl⟩)
 subst F
 rename Heap=>g
 refine zD (λi fr h=>∃n:Nat,fr 11=r/\fr 12= .int .i64 (L.length:Int)/\fr 13= .int .i64 (i:Int)/\fr 4= .int .i64 (n:Int)/\h=g/\n<=4096/\JA (L.drop i) n=R) L.length ow ?_ ?_ ?_
 ·simp only[go_sem,true_and,and_true,Int.ofNat_zero];exact⟨1,rfl,by omega,J⟩
 ·rintro i fr h s T ew ⟨n,v,w,z,U,rfl,N,j⟩;have S:=oZ k (show i<(jL L).length by omega);have D:(jL L)[i]'ow=((L[i]:Nat):Int):=by simp[jL]
  rw[D] at S;have A:=I _ (getElem_mem s);rw[drop_eq_getElem_cons s,JA] at j;generalize L[i]=y at *
  have hm:n*y<=4096*1048576:=Nat.mul_le_mul N A;have hw:IntKind.i64.wrap ((n:Int)*(y:Int))=((n*y:Nat):Int):=by rw[zt (by rw[<-Int.natCast_mul];omega) (by rw[<-Int.natCast_mul];omega),Int.natCast_mul]
  generalize X:n*y=m at *
  by_cases K:m>4096
  ·have e1:decide ((m:Int)>4096)=true:=decide_eq_true ow;rw[ip K] at j;subst j;exact au
  ·have e1:decide ((m:Int)>4096)=false:=decide_eq_false ow;rw[iq K] at j;have C:m<=4096:=ow
   repeat' first|simp only[go_sem, *]|apply bc<;>intro u
   exact⟨m,rfl,C,j⟩
 ·rintro fr h T ⟨n,v,w,z,U,rfl,N,j⟩;rw[drop_length,JA] at j;subst j;exact au
def zGd:zb prog QS f160=true:=by kernel_rfl
def Lm (h0:ts≠[]) (o:ts.length<=1048576) (g:Heap):
  zA prog 160 [(mkA ts).d] g λr h'=>h'=g/\r=(mkA ts).d:=by
 refine xU kr λk=>xS ?_;have c:Ext g g:=Ext.refl g;have j:(mkA ts).d= .sl 2 (yX ts) .no:=rfl;rw[j];have p:oG prog .eql 128 true (.sl 2 (yX ts) .no) .nilsl=some (.bool false):=by rw[uM (zZ.mk .no) underlying128];rfl
 have t:=λnid h=>qo (P:=prog) (nid:=nid) (h:=h) yg wA qB rfl rfl (by omega:0<2);have i:zg prog false g.next 128 (.sl 2 [] .full) (.sl 2 (yX ts) .no) g=some (.sl 2 (yX ts) (.own g.next),g.new g.next .tok):=by
  rw[jl yg gU qB ow (uJ ts) (by rw[pK,yT];unfold lim;omega) (by rw[yT];unfold lim;omega),iq (by rw[yT];exact λq=>h0 (List.length_eq_zero_iff.1 q))]
 have e:=c.new (Nat.le_refl _) .tok;have a:=yC (sz:=2) (xs:=yX ts) (λx l=>by
  obtain⟨y,_,rfl⟩:=List.mem_map.1 l;exact⟨rfl,by simp[Trm.cells,zf,below],rfl⟩) (.own g.next)
 have b:below g.next (zj (.sl 2 (yX ts) (.own g.next)))/\zj (.sl 2 (yX ts) (.own g.next))= .sl 2 (yX ts) .no:=⟨by rw[a.1];exact zu (Nat.zero_le _) _ a.2,a.1⟩;obtain⟨m,n⟩:=b;refine xP λQ f=> ?_;have s:=f _ _ ⟨e,m,n⟩;refine xO mix func160 zGd rfl rfl ?_;simp only[f160,gJ];simp only[go_sem,zDP, *]
def nd (sz:Nat):List (List D)->D
 | []=> .nilsl
 |x::xs=> .sl sz (x::xs) .no
theorem kC {c:Cat} :∀ {l:List Fac} {t:List (List (List Trm))} {o:List (List UInt8)},(mC c l t o).1.length<=t.length+l.length/\(mC c l t o).2.1.length<=o.length+l.length
 | [],t,o=>by rw[mC];simp
 |f::fs,t,o=>by
  rw[mC];split
  ·split
   ·have:=kC (c:=c) (l:=fs) (t:=t++ [ofL c f.e]) (o:=o);simp only[List.length_append,List.length_cons,List.length_nil] at this⊢;omega
   ·simp
  ·split
   ·split
    ·have:=kC (c:=c) (l:=fs) (t:=t) (o:=o);simp only[List.length_cons];omega
    ·have:=kC (c:=c) (l:=fs) (t:=t) (o:=o++ [f.out]);simp only[List.length_append,List.length_cons,List.length_nil] at this⊢;omega
   ·have:=kC (c:=c) (l:=fs) (t:=t) (o:=o);simp only[List.length_cons];omega
def jM {l:List Fac} :(zM c l).1.length<=l.length/\(zM c l).2.1.length<=l.length:=by
 unfold zM;split
 ·simp
 ·have:=kC (c:=c) (l:=l) (t:=[]) (o:=[]);simpa using this
def FK (c:Cat) (l:List Fac):Nat:=Qk (bB c (zM c l).1 (zM c l).2.1)
def yR (c:Cat) (l:List Fac):Int:=if(!((zM c l).2.2==0))=true then(zM c l).2.2 else if decide ((FK c l:Int)>4096)=true then 10 else 0
abbrev WC:List D:=[.nilsl, .nilsl, .nilsl, .nilsl, .nilsl, .nilsl]
def cC {a b e p:D} (h:yy c (.agg [a,b,e,p])):(a.flat=true/\b.flat=true)/\e.flat=true/\p.flat=true:=by
 obtain⟨_,_,_,_,d,f,g,i,j⟩:=h;cases d;exact⟨⟨(zJ f).2.2,(zJ g).2.2⟩,(zJ i).2.2,(zJ j).2.2⟩
def Ln {a b e p:D} (h:yy c (.agg [a,b,e,p])):(a.cells= [a]/\b.cells= [b])/\e.cells= [e]/\p.cells= [p]:=by
 obtain⟨_,_,_,_,d,f,g,i,j⟩:=h;cases d;exact⟨⟨(zJ f).1,(zJ g).1⟩,(zJ i).1,(zJ j).1⟩
theorem Lo (j:yy c d) (I:c.Sm) {l:List Fac} (W:zZ 12 (nQ l) x) (hl:l.length<=65536) (A:∀f∈l,f.Ok) (g:Heap):
  zA prog 116 [d,x] g λr h'=>Ext g h'/\∃cs,r= .tuple [.agg cs, .int .i64 (yR c l)]/\(cs.length=6/\cs.all D.flat=true)/\(yR c l=0->Qj c (zM c l).1 (zM c l).2.1 cs):=by
 have E:=Z8 j I W ow A;obtain⟨X,Y⟩:=jM (c:=c) (l:=l);have C:=λcs (w:Qj c (zM c l).1 (zM c l).2.1 cs)=>Ll w I ow ow λa T=>Nat.le_trans (uA a T).1 ow;have k:=j;obtain⟨ca,cb,ce,cp,rfl,_,_,_,_⟩:=j;obtain⟨⟨N,O⟩,P,R⟩:=cC k;obtain⟨⟨Z,D2⟩,D3,D4⟩:=Ln k;have h6:=FJ;refine xP λQ z=> ?_;have U:zx prog 189 []=some (.agg WC):=by simp[zx,fo,XB,qK,D.notTuple,D.cells]
 obtain⟨G,hG,L,y,n0⟩:∃G,g.new g.next (.row WC)=G/\G.at' g.next=some (.row WC)/\Ext g G/\g.next<G.next:=⟨_,rfl,zK _ _ _,(Ext.refl g).new (Nat.le_refl _) _,by rw[zF];omega⟩;have u:∀cs:List D,cs.length=6->cs.all D.flat=true->zQ prog 189 (.ptr g.next 0) (.agg cs) G=some (G.set g.next (.row cs)):=λcs h1 S=>yN L (by rw[km,h1]) (by rw[h1];rfl) ow S;refine xO mix func116 zBC rfl rfl ?_;simp only[f116,gJ]
 repeat' first|simp only[go_sem, *]|apply bc<;>intro j
 refine(E _).mono ?_;rintro r h ⟨hq,td,od,rfl,o,n⟩;cases v:((zM c l).2.2==0) with
 |false=>
  have i:yR c l=(zM c l).2.2:=by unfold yR;rw[v];rfl
  have t:=u WC rfl rfl;have q:=zC G g.next (.row WC);have s:=z (.tuple [.agg WC, .int .i64 (zM c l).2.2]) (G.set g.next (.row WC)) ⟨y.set (Nat.le_refl _) _,WC,by rw[i],⟨rfl,rfl⟩,λe=>by rw[i] at e;rw[e] at v;exact absurd v (by decide)⟩
  repeat' first|simp only[go_sem, *]|apply bc<;>intro j
 |true=>
 have V:zx prog 189 [(0,td),(1,od),(2, .agg [ca,cb,ce,cp])]=some (.agg [td,od,ca,cb,ce,cp]):=by
  rcases o.isSl with⟨rfl,_⟩ | ⟨_,rfl⟩ <;>rcases n.isSl with⟨rfl,_⟩ | ⟨_,rfl⟩ <;>simp[zx,fo,XB,qK,yY,D.cells,D.notTuple]
 have w:Qj c (zM c l).1 (zM c l).2.1 [td,od,ca,cb,ce,cp]:=⟨_,_,_,_,_,_,rfl,o.isSl,n.isSl,k⟩;have b:=C _ w;have m:([td,od,ca,cb,ce,cp]:List D).all D.flat=true:=by simp[(zJ o.isSl).2.2,(zJ n.isSl).2.2,N,O,P,R]
 have J:zQ prog 189 (.ptr G.next 0) (.agg [td,od,ca,cb,ce,cp]) (G.new G.next (.row WC))=some (G.new G.next (.row [td,od,ca,cb,ce,cp])):=zh km ow rfl rfl m;obtain⟨H,hH,r1,F,n1,M⟩:∃H,G.new G.next (.row [td,od,ca,cb,ce,cp])=H/\H.at' G.next=some (.row [td,od,ca,cb,ce,cp])/\Ext G H/\g.next<H.next/\H.at' g.next=some (.row WC):=⟨_,rfl,zK _ _ _,(Ext.refl G).new (Nat.le_refl _) _,by rw[zF];omega,by rw[zG ow];exact L⟩;have p:Qk (bB c (zM c l).1 (zM c l).2.1)=FK c l:=rfl;rw[p] at b;cases K:decide ((FK c l:Int)>4096) with
 |true=>
  have i:yR c l=10:=by unfold yR;rw[v,K];rfl
  have t:zQ prog 189 (.ptr g.next 0) (.agg WC) H=some (H.set g.next (.row WC)):=yN M km rfl (by decide) rfl;have q:=zC H g.next (.row WC);have s:=z (.tuple [.agg WC, .int .i64 10]) (H.set g.next (.row WC)) ⟨(y.trans F).set (Nat.le_refl _) _,WC,by rw[i],⟨rfl,rfl⟩,λe=>by rw[i] at e;exact absurd e (by decide)⟩
  repeat' first|simp only[go_sem, *]|apply bc<;>intro j|(refine zA.mono (b _) ?_;rintro r h ⟨B,rfl⟩)
 |false=>
  have i:yR c l=0:=by unfold yR;rw[v,K];rfl
  have t:zQ prog 189 (.ptr g.next 0) (.agg [td,od,ca,cb,ce,cp]) H=some (H.set g.next (.row [td,od,ca,cb,ce,cp])):=yN M km rfl (by simp) m;have q:=zC H g.next (.row [td,od,ca,cb,ce,cp]);have s:=z (.tuple [.agg [td,od,ca,cb,ce,cp], .int .i64 0]) (H.set g.next (.row [td,od,ca,cb,ce,cp])) ⟨(y.trans F).set (Nat.le_refl _) _,_,by rw[i],⟨rfl,m⟩,λ_=>w⟩
  repeat' first|simp only[go_sem, *]|apply bc<;>intro j|(refine zA.mono (b _) ?_;rintro r h ⟨B,rfl⟩)
def WD (c:Cat) (l:List Fac):D:=if(yR c l==0)=true then .tuple [.int .i64 (FK c l:Int), .int .i64 0] else .tuple [.int .i64 0, .int .i64 (yR c l)]
def Ds (i:yy c d) (t:c.Sm) {l:List Fac} (F:zZ 12 (nQ l) x) (B:l.length<=65536) (o:∀f∈l,f.Ok) (g:Heap):
  zA prog 63 [d,x] g λr h'=>h'=g/\r=WD c l:=by
 have m:=Lo i t F B o;obtain⟨G,I⟩:=jM (c:=c) (l:=l);have j:=λcs (n:Qj c (zM c l).1 (zM c l).2.1 cs)=>Ll n t ow ow λa z=>Nat.le_trans (uA a z).1 ow;have e:Qk (bB c (zM c l).1 (zM c l).2.1)=FK c l:=rfl;rw[e] at j;obtain⟨ca,cb,ce,cp,rfl,_,_,_,_⟩:=i;refine xU kr λq=> ?_;refine xP λQ y=> ?_;have b:∀h',Ext g h'->Q (WD c l) h':=λh' A=>y _ _ ⟨A,by unfold WD;split<;>simp[below,zf],rfl⟩;unfold WD at b;refine xO mix func63 zHS rfl rfl ?_;simp only[f63,gJ]
 repeat' first|simp only[go_sem, *]|apply bc<;>intro i
 refine(m _).mono ?_;rintro r h ⟨w,cs,rfl,⟨k,cf⟩,n⟩;have u:zQ prog 189 (.ptr h.next 0) (.agg cs) (h.new h.next (.row WC))=some (h.new h.next (.row cs)):=zh km ow rfl k cf;obtain⟨H,J,r1,v⟩:∃H,h.new h.next (.row cs)=H/\H.at' h.next=some (.row cs)/\Ext h H:=⟨_,rfl,zK _ _ _,(Ext.refl h).new (Nat.le_refl _) _⟩;have s:=b H (w.trans v);have C:sh prog 189 (.ptr h.next 0) H=some (.agg cs):=dC r1 EW (by rw[km,k]) ow;have E:zN true 6 cs 0=some (.agg cs):=zB k ow;cases p:(yR c l==0) with
 |false=>
  rw[iq (by rw[p];exact Bool.false_ne_true)] at s
  repeat' first|simp only[go_sem, *]|apply bc<;>intro i
 |true=>
  rw[ip p] at s;have D:=j cs (n (by simpa using p))
  repeat' first|simp only[go_sem, *]|apply bc<;>intro i|(refine zA.mono (D _) ?_;rintro r h ⟨rfl,rfl⟩)
def RT {l:List Fac} (h:yR c l=0):FK c l<=4096:=by
 unfold yR at h;split at h
 ·rename_i q;rw[h] at q;exact absurd q (by decide)
 ·split at h
  ·exact absurd h (by decide)
  ·rename_i q;simp at q;omega
def qC (p:Fac->Bool):List Fac->Nat->List Nat
 | [],_=>[]
 |f::fs,k=>if p f then k::qC p fs (k+1) else qC p fs (k+1)
theorem tW (p:Fac->Bool):∀ (l m:List Fac) (k:Nat),qC p (l++m) k=qC p l k++qC p m (k+l.length)
 | [],m,k=>by simp[qC]
 |f::l,m,k=>by
  simp only[List.cons_append,qC,tW p l m (k+1),List.length_cons];rw[show k+1+l.length=k+(l.length+1) by omega];split<;>simp
theorem uU (p:Fac->Bool):∀ (l:List Fac) (k:Nat),∀i∈qC p l k,k<=i/\i<k+l.length
 | [],k,i,h=>by simp[qC] at h
 |f::l,k,i,h=>by
  simp only[qC] at h;have a:=uU p l (k+1);split at h
  ·rcases List.mem_cons.1 h with rfl|h
   ·simp
   ·have:=a i h;simp;omega
  ·have:=a i h;simp;omega
def Q6 (p:Fac->Bool) (l:List Fac) (i:Nat):Nat:=(qC p (l.take i) 0).length
def Lq {p:Fac->Bool} {l:List Fac} (h:i<l.length) (a:p l[i]=false):Q6 p l (i+1)=Q6 p l i:=by
 unfold Q6;rw[List.take_succ_eq_append_getElem h,tW];simp[qC,a]
def Ip {p:Fac->Bool} {l:List Fac} (h:i<l.length) (a:p l[i]=true):Q6 p l (i+1)=Q6 p l i+1/\(qC p l 0)[Q6 p l i]? =some i:=by
 constructor
 ·unfold Q6;rw[List.take_succ_eq_append_getElem h,tW];simp[qC,a]
 ·unfold Q6;have e:l=l.take i++l[i]::l.drop (i+1):=by rw[List.getElem_cons_drop,List.take_append_drop]
  have e2:qC p l 0=qC p (l.take i) 0++qC p (l[i]::l.drop (i+1)) (0+(l.take i).length):=by
   rw[<-tW,<-e]
  rw[e2,List.getElem?_append_right (Nat.le_refl _),Nat.sub_self];have e3:(l.take i).length=i:=by rw[List.length_take];omega
  simp[qC,a,e3]
def Iq {p:Fac->Bool} {l:List Fac} :Q6 p l l.length=(qC p l 0).length:=by
 unfold Q6;rw[List.take_length]
def o9 (sc:List D) (kind:Int) (hf:D):D:= .fn (.func 343) [] [.iptr [.iptr sc 0] 0, .iptr [.int .i64 kind] 0, .iptr [hf] 0]
def jN (sc:List D) (kind:Int) {hf:D} (b:∃f a c,hf= .fn f a c) (h:Heap):zA prog 278 [.iptr sc 0, .int .i64 kind,hf] h λr h'=>h'=h/\r=o9 sc kind hf:=by
 obtain⟨fr,a,c,rfl⟩:∃f a c,hf= .fn f a c:=b;refine xO mix func278 zBM rfl rfl ?_;simp only[f278,gJ];simp only[go_sem,o9]
theorem qe (p:Fac->Bool):∀ (l:List Fac) (k:Nat),(qC p l k).length<=l.length
 | [],_=>Nat.le_refl _
 |f::l,k=>by
  simp only[qC];have:=qe p l (k+1);split<;>simp only[List.length_cons]<;>omega
def isF (kind:Int) (q:Fac->Bool) (f:Fac):Bool:=f.kind==kind&&q f
def fIx (kind:Int) (q:Fac->Bool) (fs:List Fac):List Nat:=qC (isF kind q) fs 0
abbrev elI (l:List Nat) (k:Nat):List D:=[.int .i64 ((l.getD k 0:Nat):Int)]
def nV {hf:D} {q:Fac->Bool} (V:sc[4]? =some x) (hx:zZ 12 (nQ fs) x) (hl:fs.length<=1048576) (U:∀f∈fs,f.Ok) {Y:Nat->(Nat->Prop)->Heap->Prop}
  (y:Yld prog id (fIx N q fs).length (elI (fIx N q fs)) Y λ_ _=>False)
  {S R:Nat->Prop} (hR:∀i,R i->i<h.next/\(¬S i\/∀k S h',Y k S h'->h'.at' i=h.at' i)) (hq:∀f∈fs,∀s:Heap,(∀i,R i->s.at' i=h.at' i)->jY prog hf [.agg f.cells] s λr h3=>h3=s/\r= .bool (q f)) (hY:Y 0 S h):
  zA prog 343 [.yld id, .iptr [.iptr sc 0] 0, .iptr [.int .i64 N] 0, .iptr [hf] 0] h λ_ h'=>∃S',(∀j,S' j->S j\/h.next<=j)/\But S h h'/\Y (fIx N q fs).length S' h':=by
 refine xO mix func343 zAA rfl rfl ?_;simp only[f343,gJ];have P:=tU hx;simp only[go_sem,ze,V,P];refine yH (λi fr h'=>fr 0= .yld id/\fr 2= .iptr [.int .i64 N] 0/\fr 3= .iptr [hf] 0/\fr 10=x/\fr 11= .int .i64 fs.length/\fr 12= .int .i64 (i:Int)/\∃S',(∀j,S' j->S j\/h.next<=j)/\But S h h'/\Y (Q6 (isF N q) fs i) S' h') fs.length ?_ ?_
 ·simp only[go_sem,true_and,and_true,Int.ofNat_zero];exact⟨S,λj o=> .inl o,But.refl S h,hY⟩
 rintro i fr h' Z ⟨u,v,w,c,d,e,S',z,m,l⟩;simp only[go_sem,u,v,w,c,d,e];by_cases b:i<fs.length
 ·rw[decide_eq_true (show(i:Int)<fs.length by exact_mod_cast b)];have hm:fs[i]∈fs:=List.getElem_mem b;have X:=qd hx b;have hw:zN true 12 fs[i].cells 0=some (.agg fs[i].cells):=zB rfl ow;have E:=Xp (U _ hm);have n:Ext h' (h'.new h'.next (.row fs[i].cells)):=(Ext.refl h').new (Nat.le_refl _) _;have a:But S h (h'.new h'.next (.row fs[i].cells)):=m.trans (n.but S) λi Z=> .inl Z;have B:fs[i].cells[0]? =some (.int .i64 fs[i].kind):=rfl;have H:IntKind.i64.wrap ((i:Int)+1)=((i+1:Nat):Int):=zy (by unfold lim;omega);cases G:(fs[i].kind==N) with
  |false=>
   simp only[go_sem,u,v,w,c,d,e,X,hw,E,B,G,H,true_and];refine⟨b,S',z,a,?_⟩;rw[Lq b (by simp[isF,G])];exact y.ext l n
  |true=>
   simp only[go_sem,u,v,w,c,d,e,X,hw,E,B,G];refine jY.mono (Q:=λr h3=>h3=h'.new h'.next (.row fs[i].cells)/\r= .bool (q fs[i])) ?_ (hq _ hm _ λj o=> ?_)
   rotate_left
   ·obtain⟨h1,s|s⟩:=hR j o
    ·exact a.2 j h1 s
    ·have:=m.1;rw[zG ow,s _ _ _ l]
   rintro r h3 ⟨rfl,rfl⟩;cases C:q fs[i] with
   |false=>
    simp only[go_sem,u,v,w,c,d,e,H,true_and];refine⟨b,S',z,a,?_⟩;rw[Lq b (by simp[isF,C])];exact y.ext l n
   |true=>
    obtain⟨n1,n2⟩:=Ip (p:=isF N q) b (by simp[isF,G,C]);have T:=(List.getElem?_eq_some_iff.1 n2).1;have M:(fIx N q fs).getD (Q6 (isF N q) fs i) 0=i:=by rw[List.getD_eq_getElem?_getD,fIx,n2];rfl
    have A:=y.go _ S' _ T (y.ext l n);simp only[elI,M] at A;simp only[go_sem,u,v,w,c,d,e];refine A.mono ?_;rintro r h3 ⟨W,I,L,hr⟩;have t:But S h h3:=a.trans L z;have F:∀j,W j->S j\/h.next<=j:=λj o=>by
     rcases I j o with o|o
     ·exact z j o
     ·have h1:=a.1;exact .inr ow
    rcases hr with⟨rfl,J⟩ | ⟨rfl,K⟩
    ·simp only[go_sem,u,v,w,c,d,e,vun,H,true_and];exact⟨b,W,F,t,by rw[n1];exact J⟩
    ·exact K.elim
 ·have O:i=fs.length:=ow;subst O;rw[decide_eq_false ow];simp only[go_sem];rw[Iq] at l;exact⟨S',z,m,l⟩
end Go.V
