/- Rules of the machine of abstract values, part 11. No condition. -/
import Derived.Test.YthcjhnmnhfgdiaaGreatDoorW34
set_option linter.all false
set_option maxHeartbeats 8000000
namespace Go.V
open List hiding max min map and or get le lt range extract
open Nat(zero_le le_refl le_trans lt_irrefl le_of_lt lt_of_lt_of_le lt_of_le_of_lt lt_succ_iff_lt_or_eq le_of_lt_succ)
open Go.Shelf Go.Proofs Go.Sort
open Go.RowKit (Below)
variable {α:Type}{id n i j:Nat}{g h0 h:Heap}{ts:List Trm}{d x y z:D}{S:Nat->Prop}{c:Cat}{e:Ex}{f:FuncId}{cap cs sc:List D}{fs:List Fac}{N:Int}
def dN [Inhabited α] (enc:α->Value) (w:World) (a off m:Nat) (c:Array α) (d:Array Go.Obj):∀b,b≠a->b<w.heap.size->(sortWorld enc w a off m c d).heap[b]? =w.heap[b]? :=λb f g=>by
 show((putRow enc (Go.Sort.ahead w m) a off c).heap++d)[b]? =_;have h:(putRow enc (Go.Sort.ahead w m) a off c).heap.size=w.heap.size:=by simp[putRow,mapBlock,Go.Sort.ahead]
 rw[Array.getElem?_append_left ow];show((Go.Sort.ahead w m).heap.modify a _)[b]? =_;rw[Array.getElem?_modify,iq (λe=>f e.symm)];rfl
section
variable {P:Program} {f cmp:FuncId} {β:Type} {dd:β->D} {xs:List β} {id:Nat} {pre post:List D} {h:Heap} {cf:β->β->Int}
abbrev Zo (dd:β->D) (xs:List β) (M:Imm) (ρ:Ren):= {p:β×Value // p.1∈xs/\rel M ρ (dd p.1) p.2/\(dd p.1).flat=true}
theorem zA.of_sort1 (h0:xs≠[]) (he:uB P f=true) (a9:∀args w,(callFunc cmp args).run P w= .ok (.enter cmp args) w)
  (O:h.at' id=some (.row (pre++xs.map dd++post))) (hO:SWO (ltOf cf)) (a1:xs.length<4611686018427387904)
  (ai:∀x∈xs,∀y∈xs,∀H,zA P cmp [dd x,dd y] H λr H'=>H'=H/\r= .int .i64 (cf x y))
  (a2:∀ (α:Type) [Inhabited α] (enc:α->Value),OneCell enc->∀ (cf:α->α->Int),SWO (ltOf cf)->∀ (g:Nat) (cb:Array Value) (t off cap:Nat) (d:Array α) (w:World),
   (∀args w,(callFunc g args).run P w= .ok (.enter g args) w)->CmpLays1 P g cb enc cf t off d.size w->Go.Sort.Holds enc w t off d->t<w.heap.size->d.size<4611686018427387904->
   Calls P f #[.slice (some ⟨t,off,none⟩) d.size cap, .func (.func g) #[] cb] w λe w'=>e= .returned (.tuple #[])/\∃u n Z,PermIn 0 d.size d u/\SortedIn (ltOf cf) 0 d.size u/\w'=sortWorld enc w t off n u Z):
  zA P f [.rs id 1 pre.length xs.length, .fn (.func cmp) [] []] h λr h'=>r= .tuple []/\∃ys:List β,ys.Perm xs/\ys.Pairwise (λa b=>¬cf b a<0)/\h'=h.set id (.row (pre++ys.map dd++post)):=by
 refine⟨he,λw0 G M ρ w va L Q a0 hr=> ?_⟩;simp only[yD] at hr;obtain⟨v,ch,b2,W,v2,ck,rfl,a5,rfl⟩:=hr;simp only[rel,yD] at W a5;obtain⟨_,b5,l,cap,o,hl,rfl,⟨b6,b7⟩,cg,ho⟩:=W;obtain⟨_,fa,fc,rfl,bb,bk⟩:=a5;have ak:fa= #[]:=Array.ext' (by simpa using bb);have au:fc= #[]:=Array.ext' (by simpa using bk);subst ak au;have b3:0<xs.length:=length_pos_iff.2 h0;have ho:o=pre.length:=by
  rcases ho with hz|ho
  ·omega
  ·exact ho
 subst ho;have a6:va= #[.slice (some ⟨l.blk,pre.length,none⟩) xs.length cap, .func (.func cmp) #[] #[]]:=Array.ext' (by simpa using b2);subst a6;obtain⟨l',h1,D,hM,c,e,hw,cc,b8,K⟩:=Q.live id _ O;rw[hl] at h1;cases h1;have ag:l.blk<w.heap.size:=(Array.getElem?_eq_some_iff.1 hw).1;have a8:∀i (s:i<xs.length),(pre++xs.map dd++post)[pre.length+i]? =some (dd xs[i]):=λi s=>by
  rw[append_assoc,getElem?_append_right ow,Nat.add_sub_cancel_left,getElem?_append_left (by simpa using s),getElem?_map,getElem?_eq_getElem s];rfl
 have F:∀i (s:i<xs.length),∃v,c[pre.length+i]? =some v/\rel M ρ (dd xs[i]) v/\(dd xs[i]).flat=true:=λi s=>by
  obtain⟨h1,v,X,h3⟩:=K _ _ (a8 i s);exact⟨v,X,h3,h1⟩
 let mk:_root_.Fin xs.length->Zo dd xs M ρ:=λi=>⟨(xs[i.1],(F i.1 i.2).choose),getElem_mem i.2,(F i.1 i.2).choose_spec.2⟩
 letI:Inhabited (Zo dd xs M ρ):=⟨mk ⟨0,b3⟩⟩
 let enc:Zo dd xs M ρ->Value:=λp=>p.1.2
 have S:OneCell enc:=λp=>jC p.2.2.1 p.2.2.2
 let d:Array (Zo dd xs M ρ):=Array.ofFn mk
 have R:d.size=xs.length:=by simp[d]
 have ba:∀i (s:i<xs.length),d[i]! =mk ⟨i,s⟩:=λi s=>by rw[getElem!_pos d i (by rw[R];exact s)];simp[d]
 have aj:d.toList.map (λp=>p.1.1)=xs:=by
  apply ext_getElem?;intro i;rw[getElem?_map,Array.getElem?_toList];by_cases s:i<xs.length
  ·rw[Array.getElem?_eq_getElem (by rw[R];exact s),getElem?_eq_getElem s,Option.map_some];simp[d,mk]
  ·rw[Array.getElem?_eq_none ow,getElem?_eq_none ow];rfl
 have a7:SWO (ltOf λp q:Zo dd xs M ρ=>cf p.1.1 q.1.1):=⟨λx=>hO.irrefl _,λx y z=>hO.trans _ _ _,λx y z=>hO.ntrans _ _ _⟩;have N:Go.Sort.Holds enc w l.blk pre.length d:=by
  intro j hj;rw[R] at hj;refine⟨?_,by simp[World.frozen?,hw]⟩;rw[ba _ hj];have W:=(F j hj).choose_spec.1;simp only[World.cell?,hw,Option.isSome_none,Bool.false_eq_true,if_false];exact W
 have U:CmpLays1 P cmp #[] enc (λp q=>cf p.1.1 q.1.1) l.blk pre.length d.size w:=by
  intro m Z J ca x y;have B:=dN enc w l.blk pre.length m J Z;have T:PI P (sortWorld enc w l.blk pre.length m J Z):=⟨λg Y=>by
   have X:=L.here Q.below Y;unfold Lib.TabIs World.var? at X⊢;rw[Y] at X⊢;simp only[Option.bind_some] at X⊢;have C:=(L.1 g Y).1;rw[B g (λq=>D (q▸C)) (lt_of_lt_of_le (w0.kept g C) Q.below.size)];exact X,λg Y=>by
   obtain⟨m,hm⟩:=L.max Q.below Y;have C:=(L.2 g Y).1;exact⟨m,(World.cell?_of_block (w:=w) (B g (λq=>D (q▸C)) (lt_of_lt_of_le (w0.kept g C) Q.below.size))).trans hm⟩⟩
  refine zA.stays (λH=>(ai x.1.1 x.2.1 y.1.1 y.2.1 H).mono λr H' hq=>hq.2) (λM ρ v W=>by simp only[rel] at W;exact W.1) (M:=M) (ρ:=ρ) (n:=h.next) (λb o v hb=> ?_) T a0 ?_
  ·have b1:b≠l.blk:=λq=>by subst q;rw[hM o] at hb;cases hb
   rw[<-Q.imm b o v hb];exact World.cell?_of_block (w:=w) (B b b1 (Q.lt hb))
  ·show yD M ρ _ [_,_];simp only[yD];exact⟨_,_,rfl,x.2.2.1,_,_,rfl,y.2.2.1,rfl⟩
 have A:=a2 (Zo dd xs M ρ) enc S (λp q=>cf p.1.1 q.1.1) a7 cmp #[] l.blk pre.length cap d w a9 U N ag (by rw[R];exact a1);rw[R] at A;refine A.mono λe w' hq=> ?_;obtain⟨rfl,u,n,Z,k,E,rfl⟩:=hq;rw[<-R] at k;have a4:=PermIn.list k;have b9:u.size=xs.length:=by rw[k.1,R]
 have b4:(u.toList.map λp=>p.1.1).Perm xs:=by
  have q:=a4.map (λp=>p.1.1)
  rwa [aj] at q
 let I:Zo dd xs M ρ->BN:=λp=>⟨(dd p.1.1,p.1.2),p.2.2.2⟩
 have a3:∀J:List (Zo dd xs M ρ),(J.map I).map (λq=>q.1.1)=(J.map λp=>p.1.1).map dd:=λJ=>by rw[map_map,map_map];rfl
 have bx:∀J:List (Zo dd xs M ρ),(J.map I).map (λq=>q.1.2)=J.map enc:=λJ=>by rw[map_map];rfl
 have V:h.at' id=some (.row (pre++(d.toList.map I).map (λq=>q.1.1)++post)):=by rw[a3,aj];exact O
 have hS:=(Q.ahead n).putRow (α:=BN) (enc:=λq=>q.1.2) (dd:=λq=>q.1.1) (λq=>q.2) V hl (ys:=u.toList.map I) (a4.map I).length_eq (λq hq=>by
  obtain⟨p,hp,rfl⟩:=mem_map.1 hq;exact p.2.2.1)
 have ad:=hS.grow Z;rw[kX,map_toArray,bx,a3,<-map_toArray,Array.toArray_toList,<-kX] at ad;refine⟨.tuple #[],M,ρ, .tuple [],_,rfl,MLe.refl _,RLe.refl _,ad,a0,by simp only[rel,yD];exact⟨#[],rfl,rfl⟩,rfl,u.toList.map (λp=>p.1.1),b4,?_,rfl⟩;rw[pairwise_map,pairwise_iff_getElem];intro i j s hj bo;have bs:j<u.size:=by simpa using hj
 have:=E i j (zero_le _) bo ow;rw[getElem!_pos u j bs,getElem!_pos u i ow] at this;simpa [ltOf] using this
end
open Go.Proofs.Tryz
open Go.Proofs Go.Shelf Go.Sort
set_option maxRecDepth 100000
def dO:QC qI where
 anti x y:=by unfold qI;(repeat' split)<;>omega
 trans x y z h1 h2:=by
  have e:∀a b:Int,qI a b<=0↔a<=b:=λa b=>by unfold qI;(repeat' split)<;>omega
  rw[e] at *;omega
def LZ (x y:Int) (h:qI x y=0):x=y:=by unfold qI at h;(repeat' split at h)<;>omega
theorem bz:∀a b:List Trm,tj a b=jW zS a b
 | [],[]=>rfl
 | [],_::_=>rfl
 |_::_,[]=>rfl
 |x::xs,y::ys=>by
  simp only[tj,jW,Xi,bz xs ys];by_cases h:zS x y=0<;>simp[h]
def sH (a b:List Trm):nU a b=Xi (qI a.length b.length) (jW zS a b):=by
 unfold nU Xi;simp only[orL,bz];split
 ·split
  ·rename_i q;exact q.symm
  ·rfl
 ·rfl
def dP:QC nU:=by
 have:=(dO.key (γ:=List Trm) (λa=>(a.length:Int))).lex oH.list;exact⟨λx y=>by rw[sH,sH];exact this.anti x y,λx y z=>by rw[sH,sH,sH];exact this.trans x y z⟩
def Xn (x y:List Trm) (h:nU x y=0):x=y:=by
 rw[sH,Xi] at h;split at h
 ·exact Zl lP _ _ h
 ·rename_i q;exact absurd h q
def Zp (l:List (List Trm)):(zm (l.map mkA)).flatten=l.map λa=>(mkA a).d:=by rw[uc,List.map_map];rfl
variable {id:Nat}{h:Heap}{f:FuncId}
def DW {l:List (List Trm)} (h0:l≠[]) (t:l.length<=1048576) (a:∀i∈l,i.length<=1048576) (b:g.at' id=some (.row (zm (l.map mkA)).flatten)):
  zA prog 238 [.rs id 1 0 l.length, .fn (.func 239) [] []] g λr h'=>r= .tuple []/\h'=g.set id (.row (zm ((srt nU l).map mkA)).flatten):=by
 have:=zA.of_sort1 (P:=prog) (f:=238) (cmp:=239) (dd:=λi=>(mkA i).d) (xs:=l) (id:=id) (pre:=[]) (post:=[]) (h:=g) (cf:=nU) h0 kr (enters_of func239 kr rfl) (by simpa [Zp] using b) dP.swo ow
  (λx q y s H=>Xh (zd.mk .no) (zd.mk .no) (a x q) (a y s) H) (λα _ enc h1 cf k g cb c off cap d w o n j m e=>Any.slices_SortFunc Tryz.sortAlt enc h1 cf k g cb c off cap d w o n j m e)
 refine this.mono λr h' ⟨e1,ys,p,e,e2⟩=>⟨e1,?_⟩;rw[e2,T5 dP Xn p e,Zp];simp
open Go.Proofs
def tY (ts:List Trm):List Trm:=cpt zS (srt zS ts)
def oJ (out:List (List Trm)) (a:List Trm):List (List Trm):=if(out.any λb=>lM a b)=true then out else out++ [a]
def pX (l:List (List Trm)):Nat->List (List Trm)
 |0=>[]
 |n+1=>match l[n]? with
  |none=>pX l n
  |some a=>oJ (pX l n) a
def wn (l:List (List Trm)):List (List Trm):=srt nU (l.map tY)
def yc (l:List (List Trm)):List (List Trm):=pX (wn l) (wn l).length
def T7 (h:ts≠[]):tY ts≠[]:=λe=>by
 have h1:0<(srt zS ts).length:=by rw[(ql ts).length_eq];exact length_pos_iff.2 h
 have:=Zm (c:=zS) h1 _ (le_refl _) h1;rw[show qJ zS (srt zS ts) (srt zS ts).length=tY ts from rfl,e] at this
 exact absurd this (lt_irrefl _)
def Xo (a:List Trm):(tY a).length<=a.length:=by
 have:=sy (c:=zS) (l:=srt zS a) (srt zS a).length;rw[(ql a).length_eq] at this;exact(by rw[<-(ql (c:=zS) a).length_eq];exact sy _)
def T8 (h:ts≠[]) (a:ts.length<=4096):(mkA ts).Ok:=⟨zd.mk .no,h,a⟩
theorem oK {l:List (List Trm)} :∀n,∀x∈pX l n,x∈l
 |0,x,h=>by cases h
 |n+1,x,h=>by
  rw[pX] at h;split at h
  ·exact oK n x h
  ·rename_i a e;unfold oJ at h;split at h
   ·exact oK n x h
   ·rcases mem_append.1 h with h|h
    ·exact oK n x h
    ·cases mem_singleton.1 h;exact mem_of_getElem? e
theorem dQ {l:List (List Trm)} :∀n,(pX l n).length<=n
 |0=>le_refl _
 |n+1=>by
  have a:=dQ (l:=l) n;rw[pX];split
  ·omega
  ·unfold oJ;split
   ·omega
   ·rw[length_append];simp only[length_cons,length_nil];omega
def Xp {l:List (List Trm)} {x:List Trm} (h:x∈yc l):∃y∈l,x=tY y:=by
 have:=kW.1 (oK _ x h);obtain⟨y,a,rfl⟩:=mem_map.1 this;exact⟨y,a,rfl⟩
theorem dR {l:List Alt} (hd:zd 1 (zm l) d) (h0:l≠[]) (hl:l.length<=1048576) (J:∀a∈l,a.Ok) (g:Heap):
  zA prog 170 [d] g λr h'=>h'=g/\Fin 1 (zm ((yc (l.map Alt.ts)).map mkA)) r:=by
 refine xU kr λb5=>xS ?_;have b4:=qN hd;refine xP λQ hQ=> ?_;have b7:=Own.start (Ext.refl g) 1;refine xO mix func170 zFh rfl rfl ?_;simp only[f170,gJ]
 repeat' first|simp only[go_sem, *]|apply bc<;>intro w
 refine zC (λi fr h=>∃s,fr 10=d/\fr 11= .int .i64 (l.length:Int)/\fr 12= .int .i64 (i:Int)/\fr 3=s/\dH g h 1 (zm (((l.take i).map λa=>tY a.ts).map mkA)) s) l.length ow ?_ ?_ ?_
 ·have X:=dH.start (Ext.refl g) 1;simp only[go_sem,true_and,and_true,Int.ofNat_zero];exact⟨_,rfl,X⟩
 ·rintro i fr h q e1 ew ⟨s,ad,ag,ai,f3,A⟩;have a1:=ue hd q;obtain⟨o1,o2,o3⟩:=J _ (getElem_mem q);have b2:(l.take (i+1)).map (λa=>tY a.ts)=(l.take i).map (λa=>tY a.ts)++ [tY l[i].ts]:=by rw[take_succ_eq_append_getElem q,map_append];rfl
  have S:((l.take i).map λa=>tY a.ts).length=i:=by rw[length_map,length_take];omega
  rw[b2];generalize l[i]=a at *
  generalize(l.take i).map (λa=>tY a.ts)=pre at *
  obtain⟨k1,k2,k3⟩:=zI o1;have a6:=λh=>LX o1 o2 ow h;have B:=λ(H:Heap) (hr:H.at' h.next=some (.row (yU a.ts).flatten))=>DV (id:=h.next) o2 ow hr;have ba:srt zS a.ts≠[]:=λe=>o2 (length_eq_zero_iff.1 (by rw[<-(ql (c:=zS) a.ts).length_eq,e];rfl));have bb:(srt zS a.ts).length=a.ts.length:=(ql a.ts).length_eq;have O:=λ(H:Heap) (hr:H.at' h.next=some (.row (yU (srt zS a.ts)).flatten))=>Vp (id:=h.next) ba ow hr;rw[bb] at O;have ca:D.sl 2 (yU (cpt zS (srt zS a.ts))) .no=(mkA (tY a.ts)).d:=rfl
  repeat' first|simp only[go_sem, *]|apply bc<;>intro w|(refine zA.mono (a6 _) ?_;rintro r h ⟨rfl,rfl⟩)
  refine(B _ (zK _ _ _)).mono ?_;rintro r j ⟨rfl,rfl⟩
  repeat' first|simp only[go_sem, *]|apply bc<;>intro w
  refine(O _ (zD _ _ _)).mono ?_;rintro r j ⟨rfl,rfl⟩;have hE:Ext h (((h.new h.next (.row (yU a.ts).flatten)).set h.next (.row (yU (srt zS a.ts)).flatten)).del h.next):=(((Ext.refl h).new (le_refl _) _).set (le_refl _) _).del (le_refl _);generalize((h.new h.next (.row (yU a.ts).flatten)).set h.next (.row (yU (srt zS a.ts)).flatten)).del h.next=H at *
  have bx:=A.ext hE;obtain⟨d',G,a4,bs,b3⟩:=bx.app (P:=prog) (ys:=zm [mkA (tY a.ts)]) (tk:= .full) yn wu yo ow (λcs=>dJ underlying128) (wE _) (wE _) (by simp[zm]) (by rw[zZ,length_map,S,qS];unfold lim;simp[zm];omega) (by rw[zZ,length_map,S];unfold lim;simp[zm];omega);have U:=n7 (mkA (tY a.ts)).d H.next H rfl rfl rfl;have C:zm [mkA (tY a.ts)]= [[(mkA (tY a.ts)).d]]:=rfl;rw[C] at a4 b3;have m:dH g G 1 (zm ((pre++ [tY a.ts]).map mkA)) d':=by
   rw[map_append]
   have:zm (pre.map mkA++List.map mkA [tY a.ts])=zm (pre.map mkA)++zm [mkA (tY a.ts)]:=by simp[zm]
   rw[this];exact bs
  repeat' first|simp only[go_sem, *]|apply bc<;>intro w
  exact⟨_,rfl,m⟩
 ·rintro fr h e1 ⟨s,ad,ag,ai,f3,A⟩;rw[take_length] at A;have hS:srt nU (l.map λa=>tY a.ts)=wn (l.map Alt.ts):=by rw[wn,map_map];rfl
  have a3:(wn (l.map Alt.ts)).length=l.length:=by rw[<-hS,(ql _).length_eq,length_map]
  have a8:l.map (λa=>tY a.ts)≠[]:=by simp[h0]
  have F:(l.map λa=>tY a.ts).length=l.length:=length_map ..;have v:∀M∈wn (l.map Alt.ts),M≠[]/\M.length<=4096:=λM h=>by
   rw[<-hS] at h;obtain⟨a,ha,rfl⟩:=mem_map.1 (kW.1 h);exact⟨T7 (J a ha).ne,le_trans (Xo _) (J a ha).len⟩
  have a7:∀M∈l.map (λa=>tY a.ts),M.length<=1048576:=λM h=>by
   have:=(v M (by rw[<-hS];exact kW.2 h)).2;omega
  obtain⟨Z,w⟩:=A;rcases w with⟨_,e⟩ | ⟨id,rfl,W,hid,R,_⟩
  ·exact absurd (by simpa [zm] using e) h0
  have C:(zm ((l.map λa=>tY a.ts).map mkA)).length=l.length:=by rw[zZ,length_map,F]
  rw[C] at f3;have B:=DW a8 ow a7 W;have T:yc (l.map Alt.ts)=pX (wn (l.map Alt.ts)) (wn (l.map Alt.ts)).length:=rfl;rw[T] at hQ;rw[F,hS] at B;generalize wn (l.map Alt.ts)=L at *
  have E0:Ext g (h.set id (.row (zm (L.map mkA)).flatten)):=Z.set hid _;have a2:∀r h',Ext g h'->below g.next (z8 r)->Fin 1 (zm ((pX L L.length).map mkA)) (z8 r)->Q r h':=λr h' q1 q2 q3=>hQ r h' ⟨q1,q2,q3⟩
  repeat' first|simp only[go_sem, *]|apply bc<;>intro w|(refine zA.mono B ?_;rintro r h ⟨rfl,rfl⟩)
  have r0:(h.set id (.row (zm (L.map mkA)).flatten)).at' id=some (.row (zm (L.map mkA)).flatten):=zD _ _ _;have E:id<(h.set id (.row (zm (L.map mkA)).flatten)).next:=R;generalize h.set id (.row (zm (L.map mkA)).flatten)=H at *
  have cc:=λ(h:Heap)=>tU (P:=prog) (t:=30) (sz:=1) (id:=id) (off:=0) (len:=l.length) (h:=h) underlying30
  repeat' first|simp only[go_sem, *]|apply bc<;>intro w
  refine zC (λi fr h=>∃o,fr 28= .rs id 1 0 l.length/\fr 29= .int .i64 (l.length:Int)/\fr 30= .int .i64 (i:Int)/\fr 7=o/\Own H h 1 (zm ((pX L i).map mkA)) o) l.length ow ?_ ?_ ?_
  ·have X:=Own.start (Ext.refl H) 1;simp only[go_sem,true_and,and_true,Int.ofNat_zero];exact⟨_,rfl,X⟩
  ·rintro i fr j q ec ew ⟨o,aj,ak,a0,f7,A⟩;have u:i<L.length:=ow;have a1:=z6 (P:=prog) (sz:=1) (id:=id) yn yo (k:= .i64) q;have b1:j.at' id=some (.row (zm (L.map mkA)).flatten):=by rw[A.1.2 _ E];exact r0
   have b8:(zm (L.map mkA)).flatten[i*1]? =some (mkA L[i]).d:=by rw[Zp,Nat.mul_one,getElem?_map,getElem?_eq_getElem u];rfl
   obtain⟨m1,m2⟩:=v L[i] (getElem_mem u);have a9:pX L (i+1)=oJ (pX L i) L[i]:=by rw[pX,getElem?_eq_getElem u]
   have Y:∀x∈pX L i,x≠[]/\x.length<=4096:=λx Z=>v x (oK i x Z);have F:=dQ (l:=L) i;rw[a9];generalize L[i]=a at *
   generalize pX L i=out at *
   have cb:j.next<(j.new j.next (.row [(mkA a).d])).next:=by rw[zF];omega
   have V:(j.new j.next (.row [(mkA a).d])).at' j.next=some (.row [(mkA a).d]):=zK _ _ _;have b6:zQ prog 128 (.ptr j.next 0) (mkA a).d (j.new j.next (.row [.nilsl]))=some (j.new j.next (.row [(mkA a).d])):=by
    rw[zR (zK _ _ _) yo (by simp) rfl rfl,p5];rfl
   have I:=A.ext ((Ext.refl j).new (le_refl _) (.row [(mkA a).d]));have n:=oI (l:=out.map mkA) (d:=o) I.isSl (by rw[length_map];omega) (f:=240) (cap:=[.ptr j.next 0]) (p:=λb=>lM a b.ts) (g:=j.new j.next (.row [(mkA a).d])) (λs X=>by
    obtain⟨y,hy,rfl⟩:=mem_map.1 X;obtain⟨n1,n2⟩:=Y y hy;exact⟨(T8 n1 n2).sl,zBu (T8 m1 m2) (T8 n1 n2) V⟩)
   have N:(out.map mkA).any (λb=>lM a b.ts)=out.any λb=>lM a b:=by rw[any_map];rfl
   rw[N] at n;have a5:(mkA a).d.cells= [(mkA a).d]/\(mkA a).d.notTuple=true:=⟨rfl,rfl⟩;obtain⟨k1,k2⟩:=a5;cases hb:(out.any λb=>lM a b) with
   |true=>
    have K:oJ out a=out:=ip hb;rw[K];rw[hb] at n;generalize j.new j.next (.row [(mkA a).d])=h3 at *
    repeat' first|simp only[go_sem, *]|apply bc<;>intro w|(refine zA.mono n ?_;rintro r h ⟨rfl,rfl⟩)
    exact⟨_,rfl,I⟩
   |false=>
    have K:oJ out a=out++ [a]:=iq (by rw[hb];exact Bool.false_ne_true);rw[K];rw[hb] at n;have U:=λnid h=>n7 (mkA a).d nid h rfl rfl rfl;have b9:sJ prog 128 (.ptr j.next 0) (j.new j.next (.row [(mkA a).d]))=some (mkA a).d:=by
     simp only[go_sem,V]
    generalize j.new j.next (.row [(mkA a).d])=h3 at *
    repeat' first|simp only[go_sem, *]|apply bc<;>intro w|(refine zA.mono n ?_;rintro r h ⟨rfl,rfl⟩)
    refine I.appH (ys:=zm [mkA a]) yn wu yo ow (wE _) (by simp[zm]) (by rw[zZ,length_map,qS];unfold lim;simp[zm];omega) (by rw[zZ,length_map];unfold lim;simp[zm];omega) λd' h' bk=> ?_;have bo:Own H h' 1 (zm ((out++ [a]).map mkA)) d':=by
     rw[map_append]
     have:zm (out.map mkA++List.map mkA [a])=zm (out.map mkA)++zm [mkA a]:=by simp[zm]
     rw[this];exact bk
    repeat' first|simp only[go_sem, *]|apply bc<;>intro w
    exact⟨_,rfl,bo⟩
  ·rintro fr j ec ⟨o,aj,ak,a0,f7,A⟩;have m:=A.2.1.fin (λx Z=>by
    obtain⟨y,hy,rfl⟩:=mem_map.1 Z;obtain⟨z,_,rfl⟩:=mem_map.1 hy;exact lQ z)
   have hq:=a2 o j (E0.trans A.1) (z7 (zero_le _) _ m.1) (by rw[a3];exact m.2);exact au
noncomputable def DX:Cfg:=⟨λt=>List.contains (α:=Nat) [22] t,λi=>(bL (α:=List (Nat×Fl)) [] i).getD []⟩
def zI2 (t:Tmp):DX.mu t=List.contains (α:=Nat) [22] t:=(rfl)
def zI3:zb prog DX f302=true:=by kernel_rfl
noncomputable def DY:Cfg:=⟨λt=>List.contains (α:=Nat) [33] t,λi=>(bL (α:=List (Nat×Fl)) [] i).getD []⟩
def FC (t:Tmp):DY.mu t=List.contains (α:=Nat) [33] t:=(rfl)
def zI4:zb prog DY f244=true:=by kernel_rfl
def DZ (h0:0<n) (k:n<=1048576) (h:Heap):
  zA prog 302 [.nilsl, .int .i64 n] h λr h'=>∃xs:List D,xs.length=n*2/\r= .rs h.next 2 0 0/\h'=h.new h.next (.row xs):=by
 have e1:decide ((n:Int)<0)=false:=decide_eq_false ow;have e2:IntKind.i64.wrap (0-0)=0:=rfl;have e3:IntKind.i64.wrap ((n:Int)-0)=n:=by rw[zj ow ow];omega
 have c:decide ((n:Int)>0)=true:=decide_eq_true ow;have d:yi prog 128 .nilsl none (some (.int .i64 0)) none h=some .nilsl:=by
  simp[yi,mi,pk,yY,yt,wR,cj,YD]
 have e:to prog true h.next 128 3 .nilsl (.int .i64 n) h=some (.rs h.next 2 0 n,h.new h.next (.row (so n [.str [], .str []]))):=by
  have j:n*32<=lim:=by unfold lim;omega
  have a:n<=lim:=by unfold lim;omega
  simp only[to,underlying3,yY,qw,yt,rc,Int.toNat_natCast,D.notTuple,D.cells];rw[ip (by simp[j,a,h0]),uX underlying130]
 have f:yi prog 128 (.rs h.next 2 0 n) none (some (.int .i64 0)) none (h.new h.next (.row (so n [.str [], .str []])))=some (.rs h.next 2 0 0):=
  tN (n:=0) mi yY yt ow
 have i:∀h:Heap,sD prog 128 .nilsl h=some (.int .i64 0):=λh=>ye (sz:=2) zd.nil underlying128;refine xO mix func302 zI3 rfl rfl ?_;simp only[f302,gJ];simp only[go_sem,zI2,e1,e2,e3,c,IN underlying128,i,d,e,f,Option.map_none,Option.map_some,List.length_nil,Int.natCast_zero,Int.ofNat_zero];refine⟨so n [.str [], .str []],?_,rfl⟩
 have:∀m,(so m [D.str [],D.str []]).length=m*2:=λm=>by
  induction m with
  |zero=>rfl
  |succ m b=>
   change (List.replicate m [D.str [],D.str []]).flatten.length=_ at b;change (List.replicate (m+1) [D.str [],D.str []]).flatten.length=_;rw[List.replicate_succ,List.flatten_cons,List.length_append,b];simp;omega
 exact this n
def zBv (h0 h:Heap) (l:List Trm) (d:D):Prop:=Ext h0 h/\∃id xs,d= .rs id 2 0 l.length/\h.at' id=some (.row xs)/\h0.next<=id/\id<h.next/\l.length*2<=xs.length/\xs.take (l.length*2)=(yU l).flatten
def La (l:List Trm):(yU l).flatten.length=l.length*2:=by rw[qF (wx l),yQ]
def Im {l c:List Trm} {d g:D} (v:zBv h0 h l d) (n:zd 2 (yU c) g) (E:l.length<=1048576) (z:c.length<=1048576):
  ∃r h',zt prog true h.next 128 d g (qZ d g h)=some (r,h')/\zBv h0 h' (l++c) r:=by
 obtain⟨k,id,xs,rfl,hid,w,B,A,q⟩:=v;have u:(l.length+c.length)*32<=lim:=by unfold lim;omega
 have m:l.length+c.length<=lim:=by unfold lim;omega
 have C:∀a:Heap,Qx 2 g a=some (yU c).flatten:=λa=>by
  rcases n with⟨rfl,p⟩ | ⟨tk,rfl⟩
  ·have:c= []:=List.map_eq_nil_iff.1 p;subst this;rfl
  ·simp only[Qx,if_true]
 have f:(xs.take (l.length*2)).length=l.length*2:=by rw[List.length_take];omega
 have b:=La c;have key:∀a:Heap,a.at' id=some (.row (xs.take (l.length*2)))->zt prog true h.next 128 (.rs id 2 0 l.length) g a=some (.rs h.next 2 0 (l.length+c.length),(a.del id).new h.next (.row (xs.take (l.length*2)++(yU c).flatten))):=λa e=>by
  simp only[zt,yY,hA,yt,if_true,C,b,Nat.mul_div_cancel _ (show 0<2 by omega),qg,rc,Bool.true_and];rw[ip (by simp[u,m]),e];simp only[];rw[ip (by rw[f])]
 obtain⟨a,e1,e2,e3,t⟩:∃a,qZ (.rs id 2 0 l.length) g h=a/\a.next=h.next/\(∀j,j≠id->a.at' j=h.at' j)/\a.at' id=some (.row (xs.take (l.length*2))):=by
  by_cases s:l.length*2<xs.length
  ·refine⟨h.set id (.row (xs.take (l.length*2))),?_,rfl,λj y=>by simp[Heap.set,y],zD _ _ _⟩;rcases n with⟨rfl,p⟩ | ⟨tk,rfl⟩ <;>simp[qZ,hid,s]
  ·have q:xs.take (l.length*2)=xs:=List.take_of_length_le ow;refine⟨h,?_,rfl,λ_ _=>rfl,by rw[q];exact hid⟩;rcases n with⟨rfl,p⟩ | ⟨tk,rfl⟩ <;>simp[qZ,hid,s]
 have o:Ext h0 a:=⟨by rw[e2];exact k.1,λi x=>by rw[e3 i ow];exact k.2 i x⟩;rw[e1,key a t];refine⟨_,_,rfl,(o.del w).new k.1 _,h.next,_,by rw[List.length_append],zK _ _ _,k.1,?_,?_,?_⟩
 ·have:(a.del id).next=a.next:=rfl;simp only[Heap.new,this,e2];omega
 ·rw[List.length_append,List.length_append,f,b];omega
 ·rw[q,Ih,List.take_of_length_le (by rw[List.length_append,List.length_append,La,b];omega)]
theorem Lb {a b:Alt} (Y:a.Ok) (Z:b.Ok) (g:Heap):
  zA prog 244 [.sl 1 [[a.d],[b.d]] .full] g λr h'=>h'=g/\r=(mkA (a.ts++b.ts)).d:=by
 obtain⟨P,Q,a3⟩:=Y;obtain⟨R,b2,b3⟩:=Z;have aj:0<a.ts.length:=List.length_pos_iff.2 Q;refine xU kr λai=> ?_
 suffices hh:zA prog 244 [.sl 1 [[a.d],[b.d]] .full] g λr h'=>zBv g h' (a.ts++b.ts) r by
  refine zA.freezeD (hh.mono ?_);rintro r h' ⟨X,id,xs,rfl,hid,hg,q,ad,ht⟩;refine⟨id,xs,hid,X.del hg,?_⟩;rw[dM (xs:=yU (a.ts++b.ts)) (rest:=xs.drop ((a.ts++b.ts).length*2)) (wx _) (yQ _) (by rw[<-ht,List.take_append_drop])];exact⟨Ii _ _,rfl⟩
 obtain⟨M,o,p,u⟩:∃M:Nat->Nat,M 0=0/\M 1=a.ts.length/\M 2=a.ts.length+b.ts.length:=⟨λi=>if i=0 then 0 else if i=1 then a.ts.length else a.ts.length+b.ts.length,rfl,rfl,rfl⟩
 obtain⟨L,c,j,m⟩:∃L:Nat->List Trm,L 0= []/\L 1=a.ts/\L 2=a.ts++b.ts:=⟨λi=>if i=0 then [] else if i=1 then a.ts else a.ts++b.ts,rfl,rfl,rfl⟩
 obtain⟨k,e,f⟩:∃k:Nat->Alt,k 0=a/\k 1=b:=⟨λi=>if i=0 then a else b,rfl,rfl⟩
 have ag:∀h:Heap,sD prog 30 (.sl 1 [[a.d],[b.d]] .full) h=some (.int .i64 2):=λh=>ye (zd.mk .full) underlying30;have A:∀i:Nat,i<2->zP prog 30 (.sl 1 [[a.d],[b.d]] .full) (.int .i64 (i:Int))=some (.iptr [(k i).d] 0)/\zd 2 (yU (k i).ts) (k i).d/\M (i+1)=M i+(k i).ts.length/\L (i+1)=L i++(k i).ts/\(L i).length<=8192/\(k i).ts.length<=8192/\M i<=8192:=λi hi=>by
  rcases i with _|_|i
  ·refine⟨zW (zd.mk .full) yn yo (by rw[e];rfl),by rw[e];exact P,by rw[o,e,p];omega,by rw[c,j,e];rfl,by rw[c];simp,by rw[e];omega,by omega⟩
  ·refine⟨zW (zd.mk .full) yn yo (by rw[f];rfl),by rw[f];exact R,by rw[p,f,u],by rw[j,m,f],by rw[j];omega,by rw[f];omega,by show M 1<=8192;omega⟩
  ·omega
 clear e f;refine xO mix func244 zI4 rfl rfl ?_;simp only[f244,gJ]
 repeat' first|simp only[go_sem,FC, *]|apply bc<;>intro w
 refine zC (λi fr h=>fr 0= .sl 1 [[a.d],[b.d]] .full/\fr 9= .sl 1 [[a.d],[b.d]] .full/\fr 10= .int .i64 2/\fr 11= .int .i64 (i:Int)/\fr 3= .int .i64 ((M i:Nat):Int)/\h=g) 2 ow ?_ ?_ ?_
 ·simp only[go_sem,true_and,and_true,Int.ofNat_zero,FC,o]
 ·rintro i fr h q e1 S ⟨T,V,E,s,U,rfl⟩;obtain⟨x1,B,C,D,x5,x6,x7⟩:=A i q;have N:=yp B;have hw:IntKind.i64.wrap (((M i:Nat):Int)+(((k i).ts.length:Nat):Int))=((M (i+1):Nat):Int):=by rw[C,zj ow ow];omega
  have O:decide (((M (i+1):Nat):Int)<0)=false:=decide_eq_false ow;have e2:decide ((i:Int)<2)=true:=e1;clear C D A o p u
  repeat' first|simp only[go_sem,FC, *]|apply bc<;>intro w
 ·rintro fr h e1 ⟨T,V,E,s,U,rfl⟩;have e2:decide ((((2:Nat):Int))<2)=false:=rfl;have z:=DZ (n:=M 2) ow ow h;have J:fr 11= .int .i64 2:=s;clear e1 s o p u
  repeat' first|simp only[go_sem,FC, *]|apply bc<;>intro w
  refine z.mono ?_;rintro r W ⟨xs,ak,rfl,rfl⟩;have y:zBv h (h.new h.next (.row xs)) (L 0) (.rs h.next 2 0 0):=⟨(Ext.refl h).new (Nat.le_refl _) _,h.next,xs,by rw[c];rfl,zK _ _ _,Nat.le_refl _,by rw[zF];omega,by rw[c];simp,by rw[c];rfl⟩;generalize h.new h.next (.row xs)=W at *
  clear z
  repeat' first|simp only[go_sem,FC, *]|apply bc<;>intro w
  refine zC (λi fr I=>fr 25= .sl 1 [[a.d],[b.d]] .full/\fr 26= .int .i64 2/\fr 27= .int .i64 (i:Int)/\zBv h I (L i) (fr 6)) 2 ow ?_ ?_ ?_
  ·simp only[go_sem,true_and,and_true,Int.ofNat_zero,FC];exact y
  ·rintro i l I q e1 S ⟨F,G,t,v⟩;obtain⟨d,H⟩:∃x,l 6=x:=⟨_,rfl⟩;rw[H] at v;obtain⟨x1,B,C,D,x5,x6,x7⟩:=A i q;obtain⟨d',h5,k1,k2⟩:=Im v B ow ow;rw[<-D] at k2;have e2:decide ((i:Int)<2)=true:=e1;obtain⟨q1,q2,q3⟩:=zI B;clear C D A c j m v y
   repeat' first|simp only[go_sem,FC, *]|apply bc<;>intro w
  ·rintro l I e1 ⟨F,G,t,v⟩;have e2:decide ((((2:Nat):Int))<2)=false:=rfl;have K:l 27= .int .i64 2:=t;rw[m] at v;obtain⟨d,H⟩:∃x,l 6=x:=⟨_,rfl⟩;rw[H] at v;clear e1 t A c j m
   repeat' first|simp only[go_sem,FC, *]|apply bc<;>intro w
def jX (a b:List Alt) (k:Nat):List Trm:=(a.getD (k/b.length) (mkA [])).ts++(b.getD (k%b.length) (mkA [])).ts
def nW (a b:List Alt):List (List Trm):=(List.range (a.length*b.length)).map (jX a b)
def Ld {a b:List Alt} (d:i<a.length) (c:j<b.length):jX a b (i*b.length+j)=a[i].ts++b[j].ts:=by
 unfold jX;rw[show(i*b.length+j)/b.length=i by rw[Nat.mul_comm,Nat.mul_add_div ow,Nat.div_eq_of_lt c];rfl,show(i*b.length+j)%b.length=j by rw[Nat.mul_comm,Nat.mul_add_mod,Nat.mod_eq_of_lt c]];simp[d,c]
def b0 (a b:List Alt):(nW a b).length=a.length*b.length:=by simp[nW]
def Da {a b:List Alt} (d:zd 1 (zm a) x) (c:zd 1 (zm b) y) (g:Heap):zA prog 172 [x,y] g λr h'=>h'=g/\r= .fn (.func 243) [] [.iptr [x] 0, .iptr [y] 0]:=by
 refine xO mix func172 zEG rfl rfl ?_;simp only[f172,gJ];rcases d with⟨rfl,_⟩ | ⟨_,rfl⟩
 ·rcases c with⟨rfl,_⟩ | ⟨_,rfl⟩
  ·exact au
  ·exact au
 ·rcases c with⟨rfl,_⟩ | ⟨_,rfl⟩
  ·exact au
  ·exact au
def In {a b:List Alt} (D:zd 1 (zm a) x) (E:zd 1 (zm b) y) (O:∀q∈a,q.Ok) (Q:∀q∈b,q.Ok) (a2:a.length<=4096) (a3:b.length<=4096) {Y:Nat->(Nat->Prop)->Heap->Prop} (F:Yld prog id (a.length*b.length) (λk=>[(mkA (jX a b k)).d]) Y λ_ _=>False) {w:Heap} (hY:Y 0 S w):
  zA prog 243 [.yld id, .iptr [x] 0, .iptr [y] 0] w λ_ h'=>∃S',But S w h'/\Y (a.length*b.length) S' h':=by
 have ak:=qN D;have a0:=qN E;obtain⟨x1,x2,_⟩:=zI D;obtain⟨y1,y2,_⟩:=zI E;refine xO mix func243 zE9 rfl rfl ?_;simp only[f243,gJ]
 repeat' first|simp only[go_sem, *]|apply bc<;>intro R
 refine zC (λi fr h'=>fr 0= .yld id/\fr 2= .iptr [y] 0/\fr 8=x/\fr 9= .int .i64 (a.length:Int)/\fr 10= .int .i64 (i:Int)/\∃S',(∀j,S' j->S j\/w.next<=j)/\But S w h'/\Y (i*b.length) S' h') a.length ow ?_ ?_ ?_
 ·have I:∃S',(∀j,S' j->S j\/w.next<=j)/\But S w w/\Y (0*b.length) S' w:=⟨S,λj C=> .inl C,But.refl S w,by rw[Nat.zero_mul];exact hY⟩;simp only[go_sem,true_and,and_true,Int.ofNat_zero];exact I
 ·rintro i fr h1 n e1 ew ⟨J,K,L,M,A,N⟩;have a1:=ue D n;have v:=O _ (List.getElem_mem n);have B:=λj (C:j<b.length)=>Ld n C;generalize a[i]=p at *
  obtain⟨T,p2,_⟩:=zI v.sl
  repeat' first|simp only[go_sem, *]|apply bc<;>intro R
  refine yF (λj fr h'=>fr 0= .yld id/\fr 2= .iptr [y] 0/\fr 8=x/\fr 9= .int .i64 (a.length:Int)/\fr 10= .int .i64 (i:Int)/\fr 5=p.d/\fr 14=y/\fr 15= .int .i64 (b.length:Int)/\fr 16= .int .i64 (j:Int)/\∃S',(∀j,S' j->S j\/w.next<=j)/\But S w h'/\Y (i*b.length+j) S' h') b.length ?_ ?_
  ·simp only[go_sem,true_and,and_true,Int.ofNat_zero];exact⟨J,K,L,M,A,N⟩
  clear N;rintro j X m C ⟨g0,g2,g8,g9,Z,g5,ad,ag,ai,S',f,c,e⟩;by_cases l:j<b.length
  ·have e2:decide ((j:Int)<(b.length:Int))=true:=decide_eq_true ow;have W:IntKind.i64.wrap ((j:Int)+1)=((j+1:Nat):Int):=zq (by unfold lim;omega);have b1:=ue E l;have z:=Q _ (List.getElem_mem l);have s:=B j l;have hk:i*b.length+j<a.length*b.length:=by
    have:i*b.length+b.length<=a.length*b.length:=by rw[<-Nat.succ_mul];exact Nat.mul_le_mul_right _ n
    omega
   have t:=F.go (i*b.length+j) S' m hk e;simp only[s] at t;generalize b[j]=q at *
   obtain⟨U,q2,_⟩:=zI z.sl;have G:=Lb v z m;have aj:∀nid:Nat,zJ prog false nid 30 2 [(0,p.d),(1,q.d)] m=some (.sl 1 [[p.d],[q.d]] .full,m):=λnid=>by
    have:=fo (P:=prog) (nid:=nid) (h:=m) (x:=p.d) (y:=q.d) yn p4 yo rfl rfl ow ow p2 (by rw[T];rfl) q2 (by rw[U];rfl);rw[T,U] at this;exact this
   have a4:(mkA (p.ts++q.ts)).d.notTuple=true:=rfl;clear v z B s F D E O Q
   repeat' first|simp only[go_sem, *]|apply bc<;>intro R|(refine zA.mono G ?_;rintro r h ⟨hq,rfl⟩)
   subst hq;refine t.mono ?_;rintro r h3 ⟨V,k1,k2,k3⟩;rcases k3 with⟨rfl,k3⟩ | ⟨rfl,k3⟩
   ·have o:∃S',(∀j,S' j->S j\/w.next<=j)/\But S w h3/\Y (i*b.length+(j+1)) S' h3:=⟨V,λi' H=>by
     rcases k1 i' H with q|q
     ·exact f _ q
     ·exact .inr (by have:=c.1;omega),c.trans k2 f,k3⟩
    clear f c e k1 k2 k3 t;exact au
   ·exact k3.elim
  ·have e2:decide ((j:Int)<(b.length:Int))=false:=decide_eq_false ow;have u:j=b.length:=ow;have o:∃S',(∀j,S' j->S j\/w.next<=j)/\But S w m/\Y ((i+1)*b.length) S' m:=⟨S',f,c,by rw[Nat.succ_mul,<-u];rw[u] at e⊢;exact e⟩;clear f c e F u;exact au
 ·rintro fr m e1 ⟨J,K,L,M,A,S',f,c,e⟩;have o:∃S',But S w m/\Y (a.length*b.length) S' m:=⟨S',c,e⟩;clear f c e F;exact au
def T9 (l:List (List Trm)):∀c∈zm (l.map mkA),yh c:=λc a=>by
 obtain⟨y,b,rfl⟩:=List.mem_map.1 a;obtain⟨z,_,rfl⟩:=List.mem_map.1 b;exact lQ z
theorem Xq {a b:List Alt} (hx:zd 1 (zm a) x) (hy:zd 1 (zm b) y) (ha:∀q∈a,q.Ok) (hb:∀q∈b,q.Ok) (O:a.length<=256) (R:b.length<=256) (g:Heap):
  zA prog 242 [.nilsl, .fn (.func 243) [] [.iptr [x] 0, .iptr [y] 0]] g λr h'=>h'=g/\Fin 1 (zm ((nW a b).map mkA)) r:=by
 refine xU kr λad=>xS ?_;refine xP λQ hQ=> ?_;have I:(nW a b).length=a.length*b.length:=b0 a b;have hm:a.length*b.length<=65536:=Nat.le_trans (Nat.mul_le_mul O R) ow;obtain⟨n,o⟩:∃n,zm ((nW a b).map mkA)=n:=⟨_,rfl⟩;have X:n.length=a.length*b.length:=by rw[<-o,zZ,List.length_map,I]
 have W:∀k,k<a.length*b.length->n[k]? =some [(mkA (jX a b k)).d]:=λk N=>by
  rw[<-o];simp[zm,nW,N]
 have V:∀c∈n,yh c:=by rw[<-o];exact T9 _
 rw[o] at hQ;refine xO mix func242 zEl rfl rfl ?_;simp only[f242,gJ];simp only[go_sem, *];simp only[zF];generalize H:LRec.mk _ _ _ _ _ _ _=L;have yl:Yld prog (g.next+1) (a.length*b.length) (λk=>[(mkA (jX a b k)).d]) (BG g.next 1 L n) (λ_ _=>False):=by
  refine⟨λk S h y=>y.here,λk S h h' y hn N=>y.loc hn N,λS h hz=>hz.elim,λS h h' hz=>hz.elim,λi S h3 hi Z=> ?_⟩;have hc:=W i hi;generalize U:(mkA (jX a b i)).d=m at *
  have T:m.cells= [m]/\m.notTuple=true/\m.flat=true:=by rw[<-U];exact⟨rfl,rfl,rfl⟩
  obtain⟨m1,m2,m3⟩:=T;have v:=λnid h=>n7 m nid h m1 m2 m3;obtain⟨g1,t,d,G,u,s⟩:=Z;subst H;refine yg.round (g:=U5) mix t rfl kr kr kr ?_;simp only[go_sem];refine⟨t,?_⟩;generalize hB:LRec.mk .busy _ _ _ _ _ _=B;generalize f:Heap.set h3 (g.next+1) (.loop B)=h5;have C:h5.at' g.next=some (.row [d]):=by rw[<-f,zE ow];exact G
  have a3:h5.at' (g.next+1)=some (.loop B):=by rw[<-f];simp[Heap.set]
  have a4:h5.next=h3.next:=by rw[<-f,zT]
  have D:wd h5 1 (n.take i) d:=u.loc ow λj l=>by
   have:=u.tok l;rw[<-f,zE (λe=>by subst e;rw[t] at this;cases this.2)]
  simp only[go_sem,C,v];have A:(n.take i).length=i:=by rw[List.length_take];omega
  refine D.app2 yn wu yo ow (by simp) (by simp) (by rw[A,qS];unfold lim;simp;omega) (by rw[A];unfold lim;simp;omega) ?_;intro F h6 b1 b2 E b4 b5 b6;have c1:h6.at' g.next=some (.row [d]):=by
   rw[E _ ow λz=> ?_]
   ·exact C
   ·have:=(D.tok z).2;rw[C] at this;cases this
  have Y:=zR (P:=prog) (off:=0) c1 jO (by simp) b5 b6;simp only[go_sem,Y,List.set_cons_zero];have c2:(h6.set g.next (.row [F])).at' (g.next+1)=some (.loop B):=by
   rw[zE ow,E _ ow λz=> ?_]
   ·exact a3
   ·have:=(D.tok z).2;rw[a3] at this;cases this
  refine wA c2 ⟨λj=>j=g.next\/j=g.next+1\/wB F j,λj l=> ?_,⟨by simp only[go_sem];omega,λj l J=> ?_⟩, .inl ⟨rfl,by simp only[go_sem];omega,?_,F,?_,?_,λj=>Iff.rfl⟩⟩
  ·rcases l with rfl|rfl|l
   ·exact .inl ((s _).2 (.inl rfl))
   ·exact .inl ((s _).2 (.inr (.inl rfl)))
   ·exact .inr (by have:=b4 j l;omega)
  ·have n1:j≠g.next:=λe=>J ((s j).2 (.inl e));have n2:j≠g.next+1:=λe=>J ((s j).2 (.inr (.inl e)));rw[zE n2,zE n1,E j ow (λz=>J ((s j).2 (.inr (.inr z)))),<-f,zE n2]
  ·rw[zD,<-hB]
  ·rw[zE ow,zD]
  ·have:n.take (i+1)=n.take i++ [[m]]:=by rw[List.take_add_one,hc];rfl
   rw[this];refine b1.loc (Nat.le_refl _) λj l=> ?_;have:=b4 j l;rw[zE ow,zE ow]
 refine(In hx hy ha hb ow ow yl (S:=λi=>i=g.next\/i=g.next+1) (w:=(g.new g.next (.row [.nilsl])).new (g.next+1) (.loop L)) ?_).mono ?_
 ·refine⟨?_,zK _ _ _, .nilsl,by rw[zH ow,zK], .inl ⟨rfl,rfl⟩,λj=>by simp[wB]⟩;rw[zp _ (by rw[zF];exact Nat.le_refl _)];omega
 rintro r h2 ⟨S',M,K⟩;obtain⟨g1,t,d,G,u,s⟩:=K;rw[<-X,List.take_length] at u;refine⟨L,t,?_,?_⟩
 ·rw[<-H];intro e;cases e
 have hp:L.pending=none:=by rw[<-H]
 rw[hp,uz];have k1:(h2.del (g.next+1)).at' g.next=some (.row [d]):=by rw[yJ ow];exact G
 have p:=u.fin V;have hq:=hQ d (h2.del (g.next+1)) ⟨Ext.del (Ext.of_but (((Ext.refl g).new (Nat.le_refl _) _).new ow _) M λj l=>by rcases l with rfl|rfl<;>omega) ow,z7 (Nat.zero_le _) _ p.1,p.2⟩;exact au
def QT {a b:List Alt} (k:zd 1 (zm a) x) (l:zd 1 (zm b) y) (f:∀q∈a,q.Ok) (i:∀q∈b,q.Ok) (c:a.length<=256) (d:b.length<=256) (g:Heap):
  zA prog 171 [.fn (.func 243) [] [.iptr [x] 0, .iptr [y] 0]] g λr h'=>h'=g/\Fin 1 (zm ((nW a b).map mkA)) r:=by
 have h1:=Xq k l f i c d;refine xP λQ e=> ?_;refine xO mix func171 zF4 rfl rfl ?_;simp only[f171,gJ];simp only[go_sem, *];refine(h1 _).mono ?_;rintro r h ⟨j,hf⟩;subst j;have:=e r h ⟨rfl,hf⟩;exact au
def Xr (l:List (List Trm)):D:= .tuple (if l.length>64 then [.nilsl, .int .i64 10] else [.sl 1 (zm (l.map mkA)) .no, .int .i64 0])
def Vq {l:List (List Trm)} (e:l.length<=1048576) (g:Heap):
  zA prog 169 [.sl 1 (zm (l.map mkA)) .no] g λr h'=>h'=g/\r=Xr l:=by
 have a:=qN (l:=l.map mkA) (zd.mk .no);rw[List.length_map] at a;refine xP λQ d=> ?_;have b:=d (Xr l) g ⟨rfl,rfl⟩;unfold Xr at b;refine xO mix func169 zFP rfl rfl ?_;simp only[f169,gJ];by_cases c:l.length>64
 ·rw[ip c] at b;have e1:decide ((l.length:Int)>64)=true:=decide_eq_true ow;exact au
 ·rw[iq c] at b;have e1:decide ((l.length:Int)>64)=false:=decide_eq_false ow;exact au
def dS (l:List Lic):∀x∈pM l,x.length=4:=λx a=>by
 obtain⟨y,_,rfl⟩:=mem_map.1 a;rfl
def Io (x y:Lic) (g:Heap):zA prog 234 [.agg x.cells, .agg y.cells] g λr h'=>h'=g/\r= .int .i64 (qI x.ver y.ver):=by
 have h1:=fp x.ver y.ver;refine xO mix func234 zF9 rfl rfl ?_;simp only[f234,gJ];simp only[Lic.cells]
 repeat' first|simp only[go_sem, *]|apply bc<;>intro a|(refine zA.mono (h1 _) ?_;rintro r h ⟨rfl,rfl⟩)
def Db {l:List Lic} (h0:l≠[]) (s:l.length<=1048576) (a:g.at' id=some (.row (pM l).flatten)):
  zA prog 233 [.rs id 4 0 l.length, .fn (.func 234) [] []] g λr h'=>r= .tuple []/\∃ys:List Lic,ys.Perm l/\h'=g.set id (.row (pM ys).flatten):=by
 have:=zA.of_sortK (P:=prog) (f:=233) (cmp:=234) (k:=4) (cells:=Lic.cells) (xs:=l) (id:=id) (pre:=[]) (post:=[]) (h:=g) (cf:=λx y=>qI x.ver y.ver) (mid:=[]) (midV:=[]) (λM ρ vs h=>by simpa [yD] using h) h0 ow (λ_ _=>rfl) kr (enters_of func234 kr rfl) (by simpa [pM] using a) (dO.key Lic.ver).swo ow
  (λx _ y _ H=>Io x y H) (λα _ enc h1 e cf j g cb b off cap d w o n i m c q=>AnyQ.slices_SortFunc Tryz.sortLic 4 (isAgg108) (sizeOf108) enc h1 e cf j g cb b off cap d w o n i m c)
 refine this.mono λr h' ⟨e1,ys,p,c,e2⟩=>⟨e1,ys,p,?_⟩;rw[e2];simp[pM]
def uf (x y:Lic):Bool:=y.fam==x.fam&&decide (y.ver>=x.ver)
def oL (c:Cat) (x:Lic):List (List UInt8):=(c.ls.filter (uf x)).map Lic.name
def Xs {k:List UInt8} {x:Lic} (h:rL c k=some x):x∈c.ls:=by
 unfold rL at h;split at h
 ·cases h
 ·split at h
  ·exact mem_of_getElem? h
  ·cases h
def Xt {x:Lic} (h:x∈c.ls):c.ls.filter (uf x)≠[]:=λe=>by
 have:x∈c.ls.filter (uf x):=mem_filter.2 ⟨h,by simp[uf]⟩;rw[e] at this;cases this
def Dc (x:Lic) (nid:Nat) (h:Heap):zJ prog false nid 22 1 [(0, .agg [.str x.name, .str x.fam, .int .i64 x.ver, .str x.text])] h=some (.sl 4 [x.cells] .full,h):=
 zy (P:=prog) (x:= .agg [.str x.name, .str x.fam, .int .i64 x.ver, .str x.text]) mg fI pH rfl rfl ow ow rfl rfl
theorem Dd (n:yu c d) (hs:c.Sm) {k:List UInt8} {x:Lic} (hf:rL c k=some x) (g:Heap):
  zA prog 168 [d, .str k] g λr h'=>h'=g/\∃ns,ns.Perm (oL c x)/\r= .tuple [.sl 1 (yS ns) .no, .int .i64 0]:=by
 have F:=LB n hs k;have S:oD c k= .tuple [.agg [.str x.name, .str x.fam, .int .i64 x.ver, .str x.text], .bool true]:=by unfold oD;rw[hf]
 rw[S] at F;clear S;refine xU kr λba=>xS ?_;refine xP λQ hQ=> ?_;have ad:=Xs hf;have s1:=hs.ls.1;obtain⟨a,b,e,p,rfl,ha,hb,he,hp⟩:=n;have A:=wV ha;have Y:=pd x;obtain⟨G0,N,r0,E0,n0⟩:∃G,g.new g.next (.row [.str x.name, .str x.fam, .int .i64 x.ver, .str x.text])=G/\G.at' g.next=some (.row [.str x.name, .str x.fam, .int .i64 x.ver, .str x.text])/\Ext g G/\g.next<G.next:=⟨_,rfl,zK _ _ _,(Ext.refl g).new (le_refl _) _,by rw[zF];omega⟩;refine xO mix func168 zE4 rfl rfl ?_;simp only[f168,gJ]
 repeat' first|simp only[go_sem, *]|apply bc<;>intro n|(refine zA.mono (F _) ?_;rintro r h ⟨hq,rfl⟩)
 clear Y F hb he hp;refine zC (λi fr h=>∃s,fr 6= .ptr g.next 0/\fr 23=a/\fr 24= .int .i64 (c.ls.length:Int)/\fr 25= .int .i64 (i:Int)/\fr 8=s/\dH G0 h 4 (pM ((c.ls.take i).filter (uf x))) s) c.ls.length ow ?_ ?_ ?_
 ·have a7:=dH.start (Ext.refl G0) 4;simp only[go_sem,true_and,and_true,Int.ofNat_zero];exact⟨_,rfl,a7⟩
 ·rintro i fr l z ec ew ⟨s,f6,ai,aj,ak,f8,j⟩;have a1:=uE ha z;have w:(c.ls.take (i+1)).filter (uf x)=(c.ls.take i).filter (uf x)++ [c.ls[i]].filter (uf x):=by rw[take_succ_eq_append_getElem z,filter_append]
  have I:((c.ls.take i).filter (uf x)).length<=i:=le_trans (length_filter_le _ _) (by rw[length_take];omega);rw[w];clear w;generalize c.ls[i]=y at *
  generalize(c.ls.take i).filter (uf x)=pre at *
  have a8:=pd y l l.next;have r1:(l.new l.next (.row [.str y.name, .str y.fam, .int .i64 y.ver, .str y.text])).at' g.next=some (.row [.str x.name, .str x.fam, .int .i64 x.ver, .str x.text]):=by
   rw[zH (by have:=j.1.1;omega),j.1.2 _ n0];exact r0
  have r2:(l.new l.next (.row [.str y.name, .str y.fam, .int .i64 y.ver, .str y.text])).at' l.next=some (.row [.str y.name, .str y.fam, .int .i64 y.ver, .str y.text]):=zK _ _ _;have m:=j.ext ((Ext.refl l).new (le_refl _) (.row [.str y.name, .str y.fam, .int .i64 y.ver, .str y.text]));simp only[Lic.cells] at a1;have W:=Dc y;generalize l.new l.next (.row [.str y.name, .str y.fam, .int .i64 y.ver, .str y.text])=H at *
  obtain⟨d',G,E,v,K⟩:=m.app (P:=prog) (ys:=pM [y]) (tk:= .full) mg JZ pH ow (λcs=>uX underlying108) (dS _) (dS _) (by simp[pM]) (by rw[sf,Ry];unfold lim;simp[pM];omega) (by rw[sf];unfold lim;simp[pM];omega);have R:pM [y]= [y.cells]:=rfl;rw[R] at E K v;have U:pM (pre++ [y])=pM pre++ [y.cells]:=by simp[pM]
  rw[<-U] at v;clear j U R hQ A ha E0 N r0;cases q1:(y.fam==x.fam) with
  |false=>
   have f:pre++ [y].filter (uf x)=pre:=by simp[uf,q1]
   rw[f];clear f E K v
   repeat' first|simp only[go_sem, *]|apply bc<;>intro n
   exact⟨_,rfl,m⟩
  |true=>
   cases q2:decide (y.ver>=x.ver) with
   |false=>
    have f:pre++ [y].filter (uf x)=pre:=by simp only[filter_cons,uf,q1,q2];simp
    rw[f];clear f E K v
    repeat' first|simp only[go_sem, *]|apply bc<;>intro n
    exact⟨_,rfl,m⟩
   |true=>
    have f:pre++ [y].filter (uf x)=pre++ [y]:=by simp only[filter_cons,uf,q1,q2];simp
    rw[f];clear f m
    repeat' first|simp only[go_sem, *]|apply bc<;>intro n
    exact⟨_,rfl,v⟩
 ·rintro fr l ec ⟨s,f6,ai,aj,ak,f8,j⟩;rw[take_length] at j;have J:=Xt ad;have a4:(c.ls.filter (uf x)).length<=1048576:=le_trans (length_filter_le _ _) s1;have hS:oL c x=(c.ls.filter (uf x)).map Lic.name:=rfl;rw[hS] at hQ;clear hS;generalize c.ls.filter (uf x)=L at *
  obtain⟨hx,n⟩:=j;rcases n with⟨_,e⟩ | ⟨id,rfl,C,hid,T,_⟩
  ·exact absurd (by simpa [pM] using e) J
  rw[sf] at f8;have X:=Db J a4 C;have O:∀ (ys:List Lic) r h',ys.Perm L->Ext g h'->below g.next (z8 r)->Fin 1 (yS (ys.map Lic.name)) (z8 r)->Q (.tuple [r, .int .i64 0]) h':=λys r h' q0 q1 q2 q3=>by
   refine hQ _ _ ⟨q1,?_,?_⟩
   ·simp only[z8,zx,below,zh];exact⟨q2,trivial,trivial⟩
   ·refine⟨ys.map Lic.name,q0.map _,?_⟩;rcases q3 with⟨_,e⟩ |e
    ·have:ys= []:=by simpa [yS] using e
     subst this;exact absurd (nil_perm.1 q0) J
    ·simp only[z8,zx,e]
  clear hQ ad A ha;have Z:g.next<=id:=le_trans E0.1 hid
  repeat' first|simp only[go_sem, *]|apply bc<;>intro n
  refine X.mono ?_;rintro r h3 ⟨rfl,ys,hp,rfl⟩;have a9:=hp.length_eq;have r1:(l.set id (.row (pM ys).flatten)).at' id=some (.row (pM ys).flatten):=zD _ _ _;have M:Ext g (l.set id (.row (pM ys).flatten)):=(E0.trans hx).set Z _;have u:id<(l.set id (.row (pM ys).flatten)).next:=T;generalize l.set id (.row (pM ys).flatten)=H at *
  have bb:=λ(h:Heap)=>tU (P:=prog) (t:=22) (sz:=4) (id:=id) (off:=0) (len:=L.length) (h:=h) underlying22;have D:=λr h'=>O ys r h' hp;clear O X C hx E0 N r0
  repeat' first|simp only[go_sem, *]|apply bc<;>intro n
  refine zC (λi fr h=>∃o,fr 48= .rs id 4 0 L.length/\fr 49= .int .i64 (L.length:Int)/\fr 50= .int .i64 (i:Int)/\fr 11=o/\Own H h 1 (yS ((ys.take i).map Lic.name)) o) L.length ow ?_ ?_ ?_
  ·have hs:=Own.start (Ext.refl H) 1;simp only[go_sem,true_and,and_true,Int.ofNat_zero];exact⟨_,rfl,hs⟩
  ·rintro i fr h3 z ec ew ⟨o,a0,a2,a3,ag,j⟩;have B:i<ys.length:=ow;have a1:=z6 (P:=prog) (sz:=4) (id:=id) mg pH (k:= .i64) z;have a6:h3.at' id=some (.row (pM ys).flatten):=by rw[j.1.2 _ u];exact r1
   have p1:=sG (dS ys) ow (Tw B);have w:(ys.take (i+1)).map Lic.name=(ys.take i).map Lic.name++ [ys[i].name]:=by rw[take_succ_eq_append_getElem B,map_append];rfl
   have I:((ys.take i).map Lic.name).length=i:=by rw[length_map,length_take];omega
   rw[w];clear w;generalize ys[i]=y at *
   generalize(ys.take i).map Lic.name=pre at *
   simp only[Lic.cells] at p1;have a8:=pd y h3 h3.next;have m:=j.ext ((Ext.refl h3).new (le_refl _) (.row [.str y.name, .str y.fam, .int .i64 y.ver, .str y.text]));have r2:(h3.new h3.next (.row [.str y.name, .str y.fam, .int .i64 y.ver, .str y.text])).at' h3.next=some (.row [.str y.name, .str y.fam, .int .i64 y.ver, .str y.text]):=zK _ _ _;have W:=p8 y.name;generalize h3.new h3.next (.row [.str y.name, .str y.fam, .int .i64 y.ver, .str y.text])=h4 at *
   clear D j r1 M u
   repeat' first|simp only[go_sem, *]|apply bc<;>intro n
   refine m.appH (ys:=yS [y.name]) yv jN uW ow ZX (by simp[yS]) (by rw[zz,tF,I];unfold lim;simp[yS];omega) (by rw[zz,I];unfold lim;simp[yS];omega) λd' h' V=> ?_;have a5:Own H h' 1 (yS (pre++ [y.name])) d':=by
    have:yS (pre++ [y.name])=yS pre++yS [y.name]:=by simp[yS]
    rw[this];exact V
   clear m V
   repeat' first|simp only[go_sem, *]|apply bc<;>intro n
   exact⟨_,rfl,a5⟩
  ·rintro fr h3 ec ⟨o,a0,a2,a3,ag,j⟩;rw[<-a9,take_length] at j;have q:=j.2.1.fin qT;have hq:=D o h3 (M.trans j.1) (z7 (zero_le _) _ q.1) q.2;clear D q j;exact au
def szd (l:List (List Trm)):Option (List (List Trm)):=if l.length>64 then none else some l
def oM (a b:List (List Trm)):List (List Trm):=nW (a.map mkA) (b.map mkA)
mutual
def lR (c:Cat):Ex->Option (List (List Trm))
 | .mk k n x l _=>if(k==0)=true then some [[⟨n,x⟩]] else if(k==1)=true then(match rL c n with
   |none=>none
   |some y=>szd (yc ((oL c y).map λs=>[⟨s,[]⟩])))
  else match n8 c k l true [] with
   |none=>none
   |some out=>szd (yc out)
def n8 (c:Cat) (k:Int):List Ex->Bool->List (List Trm)->Option (List (List Trm))
 | [],_,out=>some out
 |e::es,first,out=>match lR c e with
  |none=>none
  |some l=>if(k==3)=true then n8 c k es false (out++l) else if first=true then n8 c k es false l else match szd (yc (oM out l)) with
   |none=>none
   |some o=>n8 c k es false o
end
def Ex.Fit (c:Cat) (e:Ex):Prop:=∀x∈e.pre,x.err=0/\LK c x=0
theorem RA:∀ {l:List Ex} {e x:Ex},e∈l->x∈e.pre->x∈gF l
 |a::l,e,x,h,b=>by
  simp only[gF];rcases mem_cons.1 h with rfl|h
  ·exact mem_append_left _ b
  ·exact mem_append_right _ (RA h b)
def Ex.Fit.kid {e k:Ex} (h:e.Fit c) (a:k∈e.kids):k.Fit c:=λx b=>by
 obtain⟨g,n,f,l,d⟩:=e;exact h x (by simp only[Ex.pre];exact mem_cons_of_mem _ (RA a b))
def Ex.Fit.self (h:e.Fit c):e.err=0/\LK c e=0:=by
 obtain⟨b,n,a,l,d⟩:=e;exact h _ (by simp only[Ex.pre];exact mem_cons_self)
theorem lS {f:Nat->Int} :∀ {n:Nat},nw f n=0->∀i,i<n->f i=0
 |n+1,h,i,a=>by
  simp only[nw] at h;split at h
  ·rename_i q;rcases Nat.lt_succ_iff_lt_or_eq.1 a with g|rfl
   ·exact lS (by simpa using q) i g
   ·exact h
  ·rename_i q;exact absurd (by simpa using h) q
def Lf (h:u9 c e=0):tO c=0/\e.size<=64/\e.Fit c:=by
 unfold u9 at h;split at h
 ·exact absurd h (by decide)
 rename_i j;split at h
 ·rename_i q;rw[h] at q;exact absurd q (by decide)
 rename_i k;have a:oE e=0:=by simpa using k
 unfold oE at a;split at a
 ·exact absurd a (by decide)
 rename_i l;split at a
 ·exact absurd a (by decide)
 refine⟨by simpa using j,by simp at l;omega,λx g=> ?_⟩;obtain⟨i,b,rfl⟩:=mem_iff_getElem.1 g;rw[e.pre_len] at b;have h1:=lS a i b;have d:=lS h i b;have f:e.pre.getD i e=e.pre[i]'(by rw[e.pre_len];exact b):=by rw[getD_eq_getElem?_getD,getElem?_eq_getElem];rfl
 unfold Ex.errAt at h1;unfold Ex.unk at d;rw[f] at h1 d;exact⟨h1,d⟩
def RB {k:Int} {n x:List UInt8} {l:List Ex} (h:(Ex.mk k n x l d).Fit c):((k=0\/k=1)/\l= []/\(k=1->x= [])/\∃y,rL c n=some y)\/((k=2\/k=3)/\2<=l.length):=by
 obtain⟨h1,f⟩:=h.self;replace h1:dD k n x l.length=0:=h1;unfold dD at h1;by_cases q:((k==0)||(k==1))=true
 ·left;rw[ip q] at h1;by_cases a:(decide ((l.length:Int)>0)||((k==1)&& !(x== [])))=true
  ·rw[ip a] at h1;exact absurd h1 (by decide)
  rw[iq a] at h1;by_cases b:(!tX n||(!(x== [])&& !tX x))=true
  ·rw[ip b] at h1;exact absurd h1 (by decide)
  simp only[Bool.or_eq_true,beq_iff_eq,decide_eq_true_eq,Bool.and_eq_true,Bool.not_eq_true',not_or,not_and,Bool.not_eq_false,beq_eq_false_iff_ne] at q a b;refine⟨q,length_eq_zero_iff.1 ow,λe=>by simpa using a.2 e,?_⟩;replace f:(if(!(n== [])&& !cV c n x)=true then(7:Int) else 0)=0:=f
  by_cases i:(!(n== [])&& !cV c n x)=true
  ·rw[ip i] at f;exact absurd f (by decide)
  have m:¬(n== [])=true:=λe=>by
   have:n= []:=by simpa using e
   subst this;exact absurd b.1 (by decide)
  have g:cV c n x=true:=by
   cases j:cV c n x with
   |true=>rfl
   |false=>exact absurd (by simp[j,m]) i
  unfold cV at g;simp only[Bool.and_eq_true] at g;exact Option.isSome_iff_exists.1 g.1
 ·rw[iq q] at h1;by_cases a:((k==2)||(k==3))=true
  ·rw[ip a] at h1;right;by_cases b:(decide ((l.length:Int)<2)|| !(n== [])|| !(x== []))=true
   ·rw[ip b] at h1;exact absurd h1 (by decide)
   simp only[Bool.or_eq_true,beq_iff_eq,decide_eq_true_eq,Bool.not_eq_true',not_or] at a b;exact⟨a,by omega⟩
  ·rw[iq a] at h1;exact absurd h1 (by decide)
theorem RC {l:List (List Trm)} (h:l≠[]):∀n,0<n->n<=l.length->pX l n≠[]
 |1,_,a=>by
  rw[pX,getElem?_eq_getElem ow];simp[pX,oJ]
 |n+2,_,a=>by
  have b:=RC h (n+1) ow ow;rw[pX,getElem?_eq_getElem ow];simp only[oJ];split
  ·exact b
  ·simp
def dT {l:List (List Trm)} (h:l≠[]):yc l≠[]:=by
 have a:(wn l).length=l.length:=by rw[wn,(ql _).length_eq,length_map]
 have b:0<l.length:=length_pos_iff.2 h;exact RC (λe=>by rw[e] at a;simp at a;omega) _ ow (le_refl _)
def oN (l:List (List Trm)):(yc l).length<=l.length:=by
 have a:(wn l).length=l.length:=by rw[wn,(ql _).length_eq,length_map]
 have:=dQ (l:=wn l) (wn l).length;rw[a] at this;unfold yc;rw[a];exact this
def Zq {l m:List (List Trm)} (h:l.Perm m):yc l=yc m:=by
 unfold yc wn;rw[LW dP Xn (h.map tY)]
def gH {l m:List (List Trm)} (h:szd l=some m):m=l/\l.length<=64:=by
 unfold szd at h;split at h
 ·cases h
 ·cases h;exact⟨rfl,by omega⟩
structure AltsOk (n:Nat) (l:List (List Trm)):Prop where
 ne:l≠[]
 ts:∀t∈l,t≠[]/\t.length<=n
def AltsOk.mono {n m:Nat} {l:List (List Trm)} (h:AltsOk n l) (b:n<=m):AltsOk m l:=⟨h.ne,λt a=>⟨(h.ts t a).1,le_trans (h.ts t a).2 b⟩⟩
def AltsOk.min {l:List (List Trm)} (h:AltsOk n l):AltsOk n (yc l):=⟨dT h.ne,λt b=>by
 obtain⟨y,c,rfl⟩:=Xp b;obtain⟨h1,a⟩:=h.ts y c;exact⟨T7 h1,le_trans (Xo _) a⟩⟩
def AltsOk.app {l m:List (List Trm)} (h:∀t∈l,t≠[]/\t.length<=n) (k:AltsOk n m):AltsOk n (l++m):=⟨λe=>k.ne (append_eq_nil_iff.1 e).2,λt a=>by
 rcases mem_append.1 a with q|q
 ·exact h t q
 ·exact k.ts t q⟩
def QU {a b:List (List Trm)} {t:List Trm} (h:t∈oM a b):∃x∈a,∃y∈b,t=x++y:=by
 unfold oM nW at h;obtain⟨k,c,rfl⟩:=mem_map.1 h;rw[mem_range,length_map,length_map] at c;have d:0<b.length:=by
  rcases Nat.eq_zero_or_pos b.length with e|e
  ·rw[e,Nat.mul_zero] at c;omega
  ·exact e
 have h1:k/b.length<a.length:=by rw[Nat.div_lt_iff_lt_mul d];exact c
 have f:k%b.length<b.length:=Nat.mod_lt _ d;refine⟨a[k/b.length],getElem_mem _,b[k%b.length],getElem_mem _,?_⟩;simp[jX,h1,f,mkA]
def aA (a b:List (List Trm)):(oM a b).length=a.length*b.length:=by rw[oM,b0,length_map,length_map]
def AltsOk.pairs {n m:Nat} {a b:List (List Trm)} (h:AltsOk n a) (k:AltsOk m b):AltsOk (n+m) (oM a b):=by
 refine⟨λe=> ?_,λt d=> ?_⟩
 ·have:=aA a b;rw[e] at this;have h1:0<a.length:=length_pos_iff.2 h.ne;have c:0<b.length:=length_pos_iff.2 k.ne;have:=Nat.mul_pos h1 c;simp at *;omega
 ·obtain⟨x,f,y,g,rfl⟩:=QU d;have h1:=h.ts x f;have c:=k.ts y g;exact⟨λe=>h1.1 (append_eq_nil_iff.1 e).1,by rw[length_append];omega⟩
def dU {n:List UInt8} {y:Lic} (h:rL c n=some y):oL c y≠[]:=λe=>Xt (Xs h) (map_eq_nil_iff.1 e)
def Vr:∀n:Nat,(∀e:Ex,e.size<=n->e.Fit c->∀l,lR c e=some l->l.length<=64/\AltsOk e.size l)/\
  ∀ (k:Int) (a:List Ex),zi a<=n->(∀e∈a,e.Fit c)->∀ (m:Nat) (first:Bool) (out R:List (List Trm)),(∀t∈out,t≠[]/\t.length<=m)->(first=false->out≠[])->(a= []->out≠[])->n8 c k a first out=some R->AltsOk (m+zi a) R/\R.length<=out.length+64*a.length:=by
 intro n
 induction n with
 |zero=>
  refine⟨λe h=> ?_,λk a h hf m first out R h1 B h3 b=> ?_⟩
  ·cases e;simp only[Ex.size] at h;omega
  ·cases a with
   |nil=>simp only[n8] at b;cases b;exact⟨⟨h3 rfl,by simpa [zi] using h1⟩,by simp⟩
   |cons e l=>cases e;simp only[zi,Ex.size] at h;omega
 |succ n z=>
  have key:∀e:Ex,e.size<=n+1->e.Fit c->∀l,lR c e=some l->l.length<=64/\AltsOk e.size l:=λe h hf l f=>by
   obtain⟨k,M,x,a,d⟩:=e;simp only[Ex.size] at h⊢;have G:=RB hf;rw[lR] at f;split at f
   ·cases f;exact⟨by simp,by simp,λt p=>by cases mem_singleton.1 p;exact⟨by simp,by simp⟩⟩
   split at f
   ·split at f
    ·cases f
    ·rename_i y J;obtain⟨rfl,r⟩:=gH f;refine⟨r,AltsOk.min ⟨by simpa using dU J,λt p=> ?_⟩⟩;obtain⟨s,_,rfl⟩:=mem_map.1 p;exact⟨by simp,by simp⟩
   ·rename_i K L;split at f
    ·cases f
    ·rename_i out w;obtain⟨rfl,r⟩:=gH f;have A:2<=a.length:=by
      rcases G with⟨q,_⟩ | ⟨_,q⟩
      ·rcases q with rfl|rfl
       ·exact absurd rfl K
       ·exact absurd rfl L
      ·exact q
     have:=z.2 k a ow (λe F=>hf.kid F) 0 true [] out (λt p=>by cases p) (by simp) (λe=>by subst e;simp at A) w;exact⟨r,this.1.min.mono ow⟩
  refine⟨key,λk a h hf m first out R h1 B h3 b=> ?_⟩
  cases a with
  |nil=>simp only[n8] at b;cases b;exact⟨⟨h3 rfl,by simpa [zi] using h1⟩,by simp⟩
  |cons e a=>
   have C:0<e.size:=by cases e;simp only[Ex.size];omega
   simp only[zi] at h⊢;rw[n8] at b;split at b
   ·cases b
   ·rename_i l f;obtain⟨D,g⟩:=key e ow (hf e (by simp)) l f;have u:∀e∈a,e.Fit c:=λx I=>hf x (mem_cons_of_mem _ I);split at b
    ·have i:=AltsOk.app (n:=m+e.size) (λt p=>⟨(h1 t p).1,le_trans (h1 t p).2 ow⟩) (g.mono (show e.size<=m+e.size by omega));have:=z.2 k a ow u (m+e.size) false (out++l) R i.ts (λ_=>i.ne) (λ_=>i.ne) b;refine⟨this.1.mono ow,?_⟩;have q:=this.2;rw[length_append] at q;simp only[length_cons];omega
    ·split at b
     ·have i:=g.mono (show e.size<=m+e.size by omega);have:=z.2 k a ow u (m+e.size) false l R i.ts (λ_=>i.ne) (λ_=>i.ne) b;refine⟨this.1.mono ow,?_⟩;have q:=this.2;simp only[length_cons];omega
     ·rename_i j;have v:out≠[]:=B (by simpa using j);split at b
      ·cases b
      ·rename_i o H;obtain⟨rfl,E⟩:=gH H;have i:=(AltsOk.pairs ⟨v,h1⟩ g).min;have:=z.2 k a ow u (m+e.size) false _ R i.ts (λ_=>i.ne) (λ_=>i.ne) b;refine⟨this.1.mono ow,?_⟩;have q:=this.2;simp only[length_cons];omega
def cX:Option (List (List Trm))->D
 |some l=> .tuple [.sl 1 (zm (l.map mkA)) .no, .int .i64 0]
 |none=> .tuple [.nilsl, .int .i64 10]
def kY (l:List (List Trm)):Xr l=cX (szd l):=by
 unfold Xr szd;split<;>rfl
def aB (l:List (List Trm)):z8 (.sl 1 (zm (l.map mkA)) .no)= .sl 1 (zm (l.map mkA)) .no/\below 0 (.sl 1 (zm (l.map mkA)) .no):=yG (T9 l) .no
def rp (o:Option (List (List Trm))) (n:Nat):z8 (cX o)=cX o/\below n (cX o):=by
 cases o with
 |none=>exact⟨rfl,by simp[cX,below,zh]⟩
 |some l=>
  obtain⟨h1,a⟩:=aB l;refine⟨?_,?_⟩
  ·simp only[cX,z8,zx] at h1⊢;rw[h1]
  ·simp only[cX,below,zh];exact⟨z7 (Nat.zero_le _) _ a,trivial,trivial⟩
def RD (s x:List UInt8):Alt:=⟨[⟨s,x⟩], .sl 2 [[.str s, .str x]] .full⟩
def De (s x:List UInt8):(RD s x).Ok:=⟨zd.mk .full,by simp[RD],by simp[RD]⟩
def zBw (s x:List UInt8):yA prog 130 [(0, .str s),(1, .str x)]=some (.agg [.str s, .str x]):=by simp[yA,uw,qw,qL,D.notTuple,D.cells,yV]
def zBx (s:List UInt8):yA prog 130 [(0, .str s)]=some (.agg [.str s, .str []]):=by simp[yA,uw,qw,qL,D.notTuple,D.cells,yV]
def Lg (s x:List UInt8) (nid:Nat) (h:Heap):zJ prog false nid 128 1 [(0, .agg [.str s, .str x])] h=some (.sl 2 [[.str s, .str x]] .full,h):=
 zy (P:=prog) (x:= .agg [.str s, .str x]) yY qw yt rfl rfl ow ow rfl rfl
def o9 (c:Cat) (e:Ex):D:=cX (lR c e)
def QV (e:yu c d) {n x:List UInt8} (g:Heap):
  zA prog 91 [d, .agg [.int .i64 0, .str n, .str x,y]] g λr h'=>h'=g/\r=cX (some [[⟨n,x⟩]]):=by
 refine xU kr λa=>xS ?_;refine xP λQ b=> ?_;obtain⟨ca,cb,ce,cp,rfl,_,_,_,_⟩:=e;have h1:=zBw n x;have f:=Lg n x;have h3:=λnid h=>n7 (.sl 2 [[.str n, .str x]] .full) nid h rfl rfl rfl;have i:=b (.tuple [.sl 1 [[.sl 2 [[.str n, .str x]] .full]] .full, .int .i64 0]) g ⟨Ext.refl g,by
  simp[z8,zx,sx,below,zh,sR],by simp[z8,zx,sx,cX,zm,mkA,yU,Trm.cells]⟩
 refine xO mix func91 zC6 rfl rfl ?_;simp only[f91,gJ];exact au
theorem QW (j:yu c d) (W:c.Sm) {n x:List UInt8} {z:Lic} (hf:rL c n=some z) (g:Heap):
  zA prog 91 [d, .agg [.int .i64 1, .str n, .str x,y]] g λr h'=>h'=g/\r=cX (szd (yc ((oL c z).map λs=>[⟨s,[]⟩]))):=by
 have w:=Dd j W hf;have aj:=W.ls.1;have p:=dU hf;have ag:(oL c z).length<=c.ls.length:=by rw[oL,List.length_map];exact List.length_filter_le _ _
 refine xU kr λV=>xS ?_;refine xP λQ R=> ?_;obtain⟨ca,cb,ce,cp,rfl,_,_,_,_⟩:=j;have P:=Own.start (Ext.refl g) 1;have A:∀ (b:List (List UInt8)) (h:Heap),sD prog 31 (.sl 1 (yS b) .no) h=some (.int .i64 b.length):=λb h=>yL (zd.mk .no) h;have l:∀ (b:List (List UInt8)) (i:Nat) (U:i<b.length),zP prog 31 (.sl 1 (yS b) .no) (.int .i64 (i:Int))=some (.iptr [.str b[i]] 0):=λb i U=>wD (zd.mk .no) U;refine xO mix func91 zC6 rfl rfl ?_;simp only[f91,gJ]
 repeat' first|simp only[go_sem, *]|apply bc<;>intro j
 refine(w _).mono ?_;rintro r h ⟨k,b,I,rfl⟩;subst k;have ai:b.length<=1048576:=by rw[I.length_eq];omega
 have G:b≠[]:=λe=>by subst e;exact p (List.nil_perm.1 I)
 have ad:=A b;clear A w
 repeat' first|simp only[go_sem, *]|apply bc<;>intro j
 refine zC (λi fr O=>∃o,fr 35= .sl 1 (yS b) .no/\fr 36= .int .i64 (b.length:Int)/\fr 37= .int .i64 (i:Int)/\fr 6=o/\Own h O 1 (zm ((b.take i).map λs=>RD s [])) o) b.length ow ?_ ?_ ?_
 ·simp only[go_sem,true_and,and_true,Int.ofNat_zero];exact⟨_,rfl,P⟩
 ·rintro i fr O C Z ew ⟨o,K,L,N,f6,q⟩;have a1:=l b i C;have J:(b.take (i+1)).map (λs=>RD s [])=(b.take i).map (λs=>RD s [])++ [RD b[i] []]:=by rw[List.take_succ_eq_append_getElem C,List.map_append];rfl
  have B:((b.take i).map λs=>RD s []).length=i:=by rw[List.length_map,List.length_take];omega
  rw[J];clear J R l I;generalize b[i]=s at *
  generalize(b.take i).map (λs=>RD s [])=pre at *
  have b1:=zBx s;have b2:=Lg s [];have b3:=λnid h=>n7 (.sl 2 [[.str s, .str []]] .full) nid h rfl rfl rfl
  repeat' first|simp only[go_sem, *]|apply bc<;>intro j
  refine q.appH (ys:=zm [RD s []]) yn wu yo ow (wE _) (by simp[zm]) (by rw[zZ,qS,B];unfold lim;simp[zm];omega) (by rw[zZ,B];unfold lim;simp[zm];omega) λY h' H=> ?_;have S:Own h h' 1 (zm (pre++ [RD s []])) Y:=by
   have:zm (pre++ [RD s []])=zm pre++zm [RD s []]:=by simp[zm]
   rw[this];exact H
  clear q H
  repeat' first|simp only[go_sem, *]|apply bc<;>intro j
  exact⟨_,rfl,S⟩
 ·rintro fr O Z ⟨o,K,L,N,f6,q⟩;rw[List.take_length] at q;have m:=dR q.isSl (by simpa using G) (by rw[List.length_map];omega) (λa ha=>by
   obtain⟨s,_,rfl⟩:=List.mem_map.1 ha;exact De s [])
  have F:yc ((b.map λs=>RD s []).map Alt.ts)=yc ((oL c z).map λs=>[⟨s,[]⟩]):=by
   rw[List.map_map];exact Zq (I.map _)
  rw[F] at m;have D:yc ((oL c z).map λs=>[⟨s,[]⟩])≠[]:=dT (by simpa using p);have E:(yc ((oL c z).map λs=>[⟨s,[]⟩])).length<=1048576:=by
   refine Nat.le_trans (oN _) ?_;rw[List.length_map];omega
  generalize yc ((oL c z).map λs=>[⟨s,[]⟩])=M at *
  have f:=Vq E;rw[kY] at f;have t:∀h',Ext h h'->Q (cX (szd M)) h':=λh' he=>R _ _ ⟨he,by rw[(rp _ 0).1];exact(rp _ _).2,by rw[(rp _ 0).1]⟩;have u:=q.1;clear R F I l p G q;have v:∀r,Fin 1 (zm (M.map mkA)) r->r= .sl 1 (zm (M.map mkA)) .no:=λr hr=>by
   rcases hr with⟨_,e⟩ |e
   ·exact absurd (by simpa [zm] using e) D
   ·exact e
  repeat' first|simp only[go_sem, *]|apply bc<;>intro j
  refine(m _).mono ?_;rintro r h3 ⟨k,hr⟩;subst k;have T:=v r hr;subst T;have k:=t _ u;clear t hr m u D E;cases X:szd M with
  |none=>
   rw[X] at f k;simp only[cX] at f k
   repeat' first|simp only[go_sem, *]|apply bc<;>intro j|(refine zA.mono (f _) ?_;rintro r h ⟨rfl,rfl⟩)
  |some M'=>
   rw[X] at f k;simp only[cX] at f k
   repeat' first|simp only[go_sem, *]|apply bc<;>intro j|(refine zA.mono (f _) ?_;rintro r h ⟨rfl,rfl⟩)
def Lh {l:List (List Trm)} (h0:l≠[]) {r:D} (hr:Fin 1 (zm (l.map mkA)) r):r= .sl 1 (zm (l.map mkA)) .no:=by
 rcases hr with⟨_,e⟩ |e
 ·exact absurd (by simpa [zm] using e) h0
 ·exact e
def Zr {m:Nat} {l:List (List Trm)} (h:∀t∈l,t≠[]/\t.length<=m) (b:m<=4096):∀q∈l.map mkA,q.Ok:=λq c=>by
 obtain⟨t,a,rfl⟩:=mem_map.1 c;exact T8 (h t a).1 (le_trans (h t a).2 b)
def FD (l:List (List Trm)):(l.map mkA).map Alt.ts=l:=by rw[map_map];exact map_id _
structure MInv (c:Cat) (k:Int) (l:List Ex) (R:Option (List (List Trm))) (g:Heap) (i:Nat) (out:List (List Trm)) (o:D) (h:Heap):Prop where
 hE:Ext g h
 hK:n8 c k (l.drop i) (i==0) out=R
 hor:k=3->Own g h 1 (zm (out.map mkA)) o
 hand:k≠3->(i=0/\out= [])\/(out≠[]/\o= .sl 1 (zm (out.map mkA)) .no/\out.length<=64)
 hts:∀t∈out,t≠[]/\t.length<=zi (l.take i)
 hol:out.length<=64*i+64
theorem Li (D:yu c d) (hs:c.Sm):∀ (n:Nat) (e:Ex),e.size<=n->e.size<=64->e.Fit c->e.Ok->∀g:Heap,
  zA prog 91 [d, .agg e.cells] g λr h'=>h'=g/\r=o9 c e:=by
 intro n
 induction n with
 |zero=>intro e h;cases e;simp only[Ex.size] at h;omega
 |succ n ih=>
 intro e hn W J S g;obtain⟨k,nm,x,l,dd⟩:=e;have I:(Ex.mk k nm x l dd).cells= [.int .i64 k, .str nm, .str x,dd]:=rfl;rw[I];simp only[Ex.size] at hn W;have F:∀ (i:Nat) (hi:i<l.length),l[i].Fit c/\l[i].Ok/\∀g:Heap,zA prog 91 [d, .agg l[i].cells] g λr h'=>h'=g/\r=o9 c l[i]:=λi hi=>by
  have Z:=getElem_mem hi;have h1:l[i].Fit c:=J.kid (e:= .mk k nm x l dd) Z;have h2:l[i].Ok:=uF (by simp only[Ex.Ok] at S;exact S.2.2.2.2) _ Z;have h3:=yZ Z;exact⟨h1,h2,ih _ ow ow h1 h2⟩
 rcases RB J with⟨hk,hl,hx,y,hy⟩ | ⟨hk,b7⟩
 ·rcases hk with rfl|rfl
  ·refine(QV D (n:=nm) (x:=x) (y:=dd) g).mono λr h' ⟨q1,q2⟩=>⟨q1,?_⟩;rw[q2];simp[o9,lR]
  ·refine(QW D hs hy (x:=x) (y:=dd) g).mono λr h' ⟨q1,q2⟩=>⟨q1,?_⟩;rw[q2];simp[o9,lR,hy]
 have e0:(k==0)=false:=by rcases hk with rfl|rfl<;>rfl
 have e1:(k==1)=false:=by rcases hk with rfl|rfl<;>rfl
 have hR:lR c (.mk k nm x l dd)=match n8 c k l true [] with
  |none=>none
  |some out=>szd (yc out):=by rw[lR,iq (by rw[e0];exact Bool.false_ne_true),iq (by rw[e1];exact Bool.false_ne_true)];try (cases n8 c k l true []<;>rfl)
 have N:∀R,n8 c k l true []=some R->AltsOk 64 R/\R.length<=64*l.length:=λR hR=>by
  have:=(Vr (c:=c) (zi l)).2 k l (le_refl _) (λe he=>J.kid (e:= .mk k nm x l dd) he) 0 true [] R (λt V=>by cases V) (by simp) (λe=>by subst e;simp at b7) hR;exact⟨this.1.mono ow,by simpa using this.2⟩
 have ck:l.length<=64:=by
  have:∀l:List Ex,l.length<=zi l:=λl=>by
   induction l with
   |nil=>simp
   |cons e l ih=>simp only[zi,length_cons];cases e;simp only[Ex.size];omega
  have:=this l;omega
 have a5:zd 4 (exs l) dd:=by simp only[Ex.Ok] at S;exact S.1
 have z:=λ(e:Ex) (he:e.Fit c) (l:List (List Trm)) (hl:lR c e=some l)=>(Vr (c:=c) e.size).1 e (le_refl _) he l hl;have a2:∀i (hi:i<l.length),zi (l.take (i+1))=zi (l.take i)+l[i].size/\zi (l.take (i+1))<=zi l:=λi hi=>by
  have app:∀a b:List Ex,zi (a++b)=zi a+zi b:=λa b=>by
   induction a with
   |nil=>simp[zi]
   |cons e a ih=>simp only[cons_append,zi,ih];omega
  refine⟨by rw[take_succ_eq_append_getElem hi,app];simp[zi],?_⟩;have:=app (l.take (i+1)) (l.drop (i+1));rw[take_append_drop] at this;omega
 obtain⟨R,eR⟩:∃R,n8 c k l true []=R:=⟨_,rfl⟩;refine xU kr λcg=>xS ?_;refine xP λQ hQ=> ?_;have p:∀h',Ext g h'->Q (o9 c (.mk k nm x l dd)) h':=λh' he=>hQ _ _ ⟨he,by unfold o9;rw[(rp _ 0).1];exact(rp _ _).2,by unfold o9;rw[(rp _ 0).1]⟩;unfold o9 at p;rw[hR,eR] at p;rw[eR] at N;clear hQ hR J S ih I;obtain⟨ca,cb,ce,cp,rfl,_,_,_,_⟩:=D;have cf:=uG a5;have b5:=Own.start (Ext.refl g) 1;refine xO mix func91 zC6 rfl rfl ?_;simp only[f91,gJ]
 repeat' first|simp only[go_sem, *]|apply bc<;>intro D
 refine zC (λi fr h=>∃out o,fr 2= .iptr [ca,cb,ce,cp] 0/\fr 3= .iptr [.int .i64 k, .str nm, .str x,dd] 0/\fr 54=dd/\fr 55= .int .i64 (l.length:Int)/\fr 56= .int .i64 (i:Int)/\fr 6=o/\MInv c k l R g i out o h) l.length ow ?_ ?_ ?_
 ·have h0:MInv c k l R g 0 [] .nilsl g:=⟨Ext.refl g,eR,λ_=>b5,λ_=> .inl ⟨rfl,rfl⟩,λt V=>(by cases V),by simp⟩;simp only[go_sem,true_and,and_true,Int.ofNat_zero];exact⟨_,_,rfl,h0⟩
 ·rintro i fr h Y ec ew ⟨out,o,f2,f3,b2,b3,b4,f6,⟨hE,j,T,s,w,ad⟩⟩;have a1:=rh a5 Y;obtain⟨kf,ko,kc⟩:=F i Y;obtain⟨s1,s2⟩:=a2 i Y;have b9:=LI l[i] (Ex.flat ko) h h.next;have K:=hE.new hE.1 (.row l[i].cells);have bo:(h.new h.next (.row l[i].cells)).at' h.next=some (.row l[i].cells):=zK _ _ _;rw[drop_eq_getElem_cons Y,n8] at j;have ag:=z _ kf;have ai:Ext h (h.new h.next (.row l[i].cells)):=(Ext.refl h).new (le_refl _) _;have A:k=3->Own g (h.new h.next (.row l[i].cells)) 1 (zm (out.map mkA)) o:=λe=>(T e).ext ai;generalize hy:l[i]=y at *
  simp only[Ex.cells] at a1 kc b9 K bo A ai;generalize hH:h.new h.next (.row [.int .i64 y.kind, .str y.name, .str y.exc,y.d])=H at *
  clear F a2 z T;have a7:((i:Int)==0)=(i==0):=by cases i<;>rfl
  have ch:(i+1==0)=false:=rfl;cases Z:lR c y with
  |none=>
   rw[Z] at j;simp only at j;have m:=p H K;rw[<-j] at m;simp only[cX] at m;have O:o9 c y= .tuple [.nilsl, .int .i64 10]:=by unfold o9;rw[Z];rfl
   rw[O] at kc;clear O p A s w j
   repeat' first|simp only[go_sem, *]|apply bc<;>intro D|(refine zA.mono (kc _) ?_;rintro r h ⟨m,rfl⟩)
  |some C=>
   rw[Z] at j;simp only at j;obtain⟨W,u⟩:=ag C Z;have O:o9 c y= .tuple [.sl 1 (zm (C.map mkA)) .no, .int .i64 0]:=by unfold o9;rw[Z];rfl
   rw[O] at kc;clear O ag;cases q3:(k==3) with
   |true=>
    rw[ip q3] at j;have v:k=3:=by simpa using q3
    have bb:=A v;clear s A p
    repeat' first|simp only[go_sem, *]|apply bc<;>intro D|(refine zA.mono (kc _) ?_;rintro r h ⟨m,rfl⟩)
    subst m;refine bb.appH (ys:=zm (C.map mkA)) yn wu yo ow (wE _) (by simpa [zm] using u.ne) (by rw[zZ,zZ,length_map,length_map,qS];unfold lim;omega) (by rw[zZ,zZ,length_map,length_map];unfold lim;omega) λd' h' a9=> ?_;have a0:Own g h' 1 (zm ((out++C).map mkA)) d':=by
     have:zm ((out++C).map mkA)=zm (out.map mkA)++zm (C.map mkA):=by simp[zm]
     rw[this];exact a9
    have B:MInv c k l R g (i+1) (out++C) d' h':=⟨a0.1,j,λ_=>a0,λq=>absurd v q,λt V=>by
     rcases mem_append.1 V with q|q
     ·exact⟨(w t q).1,le_trans (w t q).2 ow⟩
     ·exact⟨(u.ts t q).1,le_trans (u.ts t q).2 ow⟩,by rw[length_append];omega⟩
    clear a9 bb j w ad u a0 v
    repeat' first|simp only[go_sem, *]|apply bc<;>intro D
    exact⟨_,_,rfl,B⟩
   |false=>
    rw[iq (by rw[q3];exact Bool.false_ne_true)] at j;have v:k≠3:=by simpa using q3
    have E:=s v;clear s A;cases q0:(i==0) with
    |true=>
     rw[ip q0] at j;have B:MInv c k l R g (i+1) C (.sl 1 (zm (C.map mkA)) .no) H:=⟨K,j,λq=>absurd q v,λ_=> .inr ⟨u.ne,rfl,W⟩,λt V=>⟨(u.ts t V).1,le_trans (u.ts t V).2 ow⟩,by omega⟩;clear j w ad u E p;rw[q0] at a7
     repeat' first|simp only[go_sem, *]|apply bc<;>intro D|(refine zA.mono (kc _) ?_;rintro r h ⟨m,rfl⟩)
     subst m;exact⟨_,_,rfl,B⟩
    |false=>
     rw[iq (by rw[q0];exact Bool.false_ne_true)] at j;rw[q0] at a7;obtain⟨aj,ho,ba⟩:out≠[]/\o= .sl 1 (zm (out.map mkA)) .no/\out.length<=64:=by
      rcases E with⟨q,_⟩ |q
      ·subst q;exact absurd q0 (by decide)
      ·exact q
     subst ho;have U:=AltsOk.pairs ⟨aj,w⟩ u;have bx:=Zr w ow;have b1:=Zr u.ts ow;have a4:=Da (zd.mk (sz:=1) (xs:=zm (out.map mkA)) .no) (zd.mk (sz:=1) (xs:=zm (C.map mkA)) .no);have ak:=QT (zd.mk (sz:=1) (xs:=zm (out.map mkA)) .no) (zd.mk (sz:=1) (xs:=zm (C.map mkA)) .no) bx b1 (by rw[length_map];omega) (by rw[length_map];omega);have bk:nW (out.map mkA) (C.map mkA)=oM out C:=rfl;rw[bk] at ak;have cl:(oM out C).length<=4096:=by
      rw[aA];exact le_trans (Nat.mul_le_mul ba W) ow
     have G:=dR (zd.mk (sz:=1) (xs:=zm ((oM out C).map mkA)) .no) (by simpa using U.ne) (by rw[length_map];omega) (Zr U.ts ow);rw[FD] at G;have z:=U.min;have a8:=z.ne;have au:(yc (oM out C)).length<=1048576:=le_trans (oN _) ow;have a6:=λr hr=>Lh U.ne (r:=r) hr;have L:=λr hr=>Lh z.ne (r:=r) hr;generalize oM out C=P at *
     generalize hM:yc P=M at *
     have f:=Vq au;rw[kY] at f;clear bk U bx b1 w ad u E aj
     repeat' first|simp only[go_sem, *]|apply bc<;>intro D|(refine zA.mono (kc _) ?_;rintro r h ⟨m,rfl⟩)
     subst m;clear kc;refine(a4 _).mono ?_;rintro r h1 ⟨m,rfl⟩;subst m;clear a4
     repeat' first|simp only[go_sem, *]|apply bc<;>intro D
     refine(ak _).mono ?_;rintro r h2 ⟨m,hr⟩;subst m;have hr:=a6 r hr;subst hr;clear ak
     repeat' first|simp only[go_sem, *]|apply bc<;>intro D
     refine(G _).mono ?_;rintro r h3 ⟨m,hr⟩;subst m;have hr:=L r hr;subst hr;clear G a6 L;cases hz:szd M with
     |none=>
      rw[hz] at j f;simp only at j;have m:=p _ K;rw[<-j] at m;simp only[cX] at m f;clear p j z a8
      repeat' first|simp only[go_sem, *]|apply bc<;>intro D|(refine zA.mono (f _) ?_;rintro r h ⟨rfl,rfl⟩)
     |some M'=>
      obtain⟨rfl,a3⟩:=gH hz;rw[hz] at j f;simp only at j;simp only[cX] at f;have B:MInv c k l R g (i+1) M' (.sl 1 (zm (M'.map mkA)) .no) h3:=⟨K,j,λq=>absurd q v,λ_=> .inr ⟨a8,rfl,a3⟩,λt V=>by rw[s1];exact z.ts t V,by omega⟩;clear p j z
      repeat' first|simp only[go_sem, *]|apply bc<;>intro D|(refine zA.mono (f _) ?_;rintro r h ⟨rfl,rfl⟩)
      exact⟨_,_,rfl,B⟩
 ·rintro fr h ec ⟨out,o,f2,f3,b2,b3,b4,f6,⟨hE,j,T,s,w,ad⟩⟩;have b6:l.drop l.length= []:=drop_length;rw[b6,n8] at j;obtain⟨X,cc⟩:=N out j.symm;have bs:zd 1 (zm (out.map mkA)) o:=by
   by_cases v:k=3
   ·exact(T v).isSl
   ·rcases s v with⟨q,_⟩ | ⟨_,q,_⟩
    ·omega
    ·rw[q];exact zd.mk .no
  have G:=dR bs (by simpa using X.ne) (by rw[length_map];omega) (Zr X.ts ow);rw[FD] at G;have L:=λr hr=>Lh X.min.ne (r:=r) hr;have au:(yc out).length<=1048576:=le_trans (oN _) ow;have f:=Vq au;rw[kY] at f;have m:=p _ hE;rw[<-j] at m;simp only at m;clear p N T s w X bs F z a2 j;generalize yc out=M at *
  repeat' first|simp only[go_sem, *]|apply bc<;>intro D
  refine(G _).mono ?_;rintro r h3 ⟨b8,hr⟩;subst b8;have hr:=L r hr;subst hr;clear G L;cases hz:szd M with
  |none=>
   rw[hz] at f m;simp only[cX] at m f
   repeat' first|simp only[go_sem, *]|apply bc<;>intro D|(refine zA.mono (f _) ?_;rintro r h ⟨rfl,rfl⟩)
  |some M'=>
   rw[hz] at f m;simp only[cX] at m f
   repeat' first|simp only[go_sem, *]|apply bc<;>intro D|(refine zA.mono (f _) ?_;rintro r h ⟨rfl,rfl⟩)
def ofD (c:Cat) (e:Ex):D:=if(u9 c e==0)=true then o9 c e else .tuple [.nilsl, .int .i64 (u9 c e)]
def Df (i:yu c d) (o:c.Sm) (k:e.Ok) (m:e.size<=1048576) (g:Heap):
  zA prog 44 [d, .agg e.cells] g λr h'=>h'=g/\r=ofD c e:=by
 have b:=dE i o k m;have j:=λ(h:u9 c e=0)=>Li i o e.size e (le_refl _) (Lf h).2.1 (Lf h).2.2 k;obtain⟨ca,cb,ce,cp,rfl,_,_,_,_⟩:=i;refine xP λQ p=> ?_;have f:=p (ofD c e) g ⟨rfl,rfl⟩;unfold ofD at f;simp only[Ex.cells] at b j⊢;refine xO mix func44 zHx rfl rfl ?_;simp only[f44,gJ];cases q:(u9 c e==0) with
 |false=>
  rw[iq (by rw[q];exact Bool.false_ne_true)] at f
  repeat' first|simp only[go_sem, *]|apply bc<;>intro i|(refine zA.mono (b _) ?_;rintro r h ⟨rfl,rfl⟩)
 |true=>
  rw[ip q] at f;have a:=j (by simpa using q);unfold o9 at f a;cases n:lR c e with
  |none=>
   rw[n] at f a;simp only[cX] at f a
   repeat' first|simp only[go_sem, *]|apply bc<;>intro i|(refine zA.mono (b _) ?_;rintro r h ⟨rfl,rfl⟩)|(refine zA.mono (a _) ?_;rintro r h ⟨rfl,rfl⟩)
  |some l=>
   rw[n] at f a;simp only[cX] at f a
   repeat' first|simp only[go_sem, *]|apply bc<;>intro i|(refine zA.mono (b _) ?_;rintro r h ⟨rfl,rfl⟩)|(refine zA.mono (a _) ?_;rintro r h ⟨rfl,rfl⟩)
def Vt (l:List (List Trm)):D:= .sl 1 (zm (l.map mkA)) .no
def aC (l:List (List (List Trm))):List (List D):=l.map λa=>[Vt a]
def sg (l:List (List (List Trm))):(aC l).length=l.length:=List.length_map ..
def Ip {l:List (List (List Trm))} (h:i<l.length):(aC l)[i]? =some [Vt l[i]]:=by simp[aC,h]
def Iq (l:List (List (List Trm))):∀x∈aC l,x.length=1:=λx a=>by
 obtain⟨s,_,rfl⟩:=List.mem_map.1 a;rfl
def QX (l:List (List (List Trm))):∀x∈aC l,yh x:=λx b=>by
 obtain⟨s,_,rfl⟩:=List.mem_map.1 b;obtain⟨h1,a⟩:=aB s;exact⟨rfl,by simp only[zh];exact⟨a,trivial⟩,by simp only[zx,Vt];rw[h1]⟩
def pY {l:List (List (List Trm))} (a:zd 1 (aC l) d) (h:Heap):sD prog 61 d h=some (.int .i64 l.length):=by rw[ye a underlying61,sg]
def Zs {l:List (List (List Trm))} (a:zd 1 (aC l) d) (b:i<l.length):zP prog 61 d (.int .i64 (i:Int))=some (.iptr [Vt l[i]] 0):=zW a og jO (Ip b)
def ju (c:Cat) (e:Ex):Int:=if(u9 c e==0)=true then(match lR c e with
 |some _=>0
 |none=>10) else u9 c e
def ofL (c:Cat) (e:Ex):List (List Trm):=(lR c e).getD []
abbrev zGb:=List (List (List Trm)) ×List (List UInt8) ×Int
def gI (c:Cat):List Fac->List (List (List Trm))->List (List UInt8)->zGb
 | [],t,o=>(t,o,0)
 |f::fs,t,o=>if(f.kind==1)=true then(if(ju c f.e==0)=true then gI c fs (t++ [ofL c f.e]) o else([],[],ju c f.e))
  else if(f.kind==2)=true then gI c fs t (if(o.any (· ==f.out))=true then o else o++ [f.out]) else gI c fs t o
def za (c:Cat) (l:List Fac):zGb:=if(!((qp c l).2==0))=true then([],[],(qp c l).2) else gI c l [] []
def zBy (h:(ju c e==0)=true):ofD c e= .tuple [Vt (ofL c e), .int .i64 0]:=by
 unfold ju at h;unfold ofD ofL o9;split at h
 ·rename_i q;rw[ip q];split at h
  ·rename_i l a;rw[a];rfl
  ·exact absurd h (by decide)
 ·rename_i q;exact absurd h q
def Dg (h:(ju c e==0)=false):ofD c e= .tuple [.nilsl, .int .i64 (ju c e)]:=by
 unfold ju at h⊢;unfold ofD o9;split at h
 ·rename_i q;rw[ip q,ip q];split at h
  ·exact absurd h (by decide)
  ·rename_i a;rw[a];rfl
 ·rename_i q;rw[iq q,iq q]
def Dh (a:List (List Trm)) (nid:Nat) (h:Heap):zJ prog false nid 61 1 [(0,Vt a)] h=some (.sl 1 [[Vt a]] .full,h):=
 zy (P:=prog) (x:=Vt a) og Ug jO rfl rfl ow ow rfl rfl
structure ValI (c:Cat) (l:List Fac) (R:zGb) (g:Heap) (i:Nat) (t:List (List (List Trm))) (o:List (List UInt8)) (td od:D) (h:Heap):Prop where
 own:Own2 g h 1 (aC t) td 1 (yS o) od
 eq:gI c (l.drop i) t o=R
 tl:t.length<=i
 ol:o.length<=i
theorem Zt (q:yu c d) (hs:c.Sm) {l:List Fac} (X:zd 12 (nz l) x) (hl:l.length<=1048576) (w:∀f∈l,f.Ok) (g:Heap):
  zA prog 20 [d,x] g λr h'=>h'=g/\∃td od,r= .tuple [td,od, .int .i64 (za c l).2.2]/\Fin 1 (aC (za c l).1) td/\Fin 1 (yS (za c l).2.1) od:=by
 have z:=Vi q hs X hl w;have T:=λf (hf:f∈l)=>Df q hs (w f hf).e (w f hf).es;have Z:=t7 X;have ag:=ny;obtain⟨ca,cb,ce,cp,rfl,_,_,_,_⟩:=q;refine xU kr λad=>xS ?_;refine xP λQ I=> ?_;have P:=Own2.start (Ext.refl g) 1 1;refine xO mix func20 zHw rfl rfl ?_;simp only[f20,gJ];cases q1:((qp c l).2==0) with
 |false=>
  have C:za c l=([],[],(qp c l).2):=by unfold za;rw[q1];rfl
  have y:=I (.tuple [.nilsl, .nilsl, .int .i64 (qp c l).2]) g ⟨Ext.refl g,by simp[z8,zx,below,zh], .nilsl, .nilsl,by rw[C];rfl, .inl ⟨rfl,by rw[C];rfl⟩, .inl ⟨rfl,by rw[C];rfl⟩⟩
  repeat' first|simp only[go_sem, *]|apply bc<;>intro q|(refine zA.mono (z _) ?_;rintro r h ⟨rfl,rfl⟩)
 |true=>
 have C:za c l=gI c l [] []:=by unfold za;rw[q1];rfl
 obtain⟨R,Y⟩:∃R,gI c l [] []=R:=⟨_,rfl⟩;rw[C,Y] at I
 repeat' first|simp only[go_sem, *]|apply bc<;>intro q|(refine zA.mono (z _) ?_;rintro r h ⟨y,rfl⟩)
 refine zC (λi fr h=>∃t o td od,fr 2= .iptr [ca,cb,ce,cp] 0/\fr 24=x/\fr 25= .int .i64 (l.length:Int)/\fr 26= .int .i64 (i:Int)/\fr 9=td/\fr 10=od/\ValI c l R g i t o td od h) l.length ow ?_ ?_ ?_
 ·have h0:ValI c l R g 0 [] [] .nilsl .nilsl g:=⟨P,Y,Nat.le_refl _,Nat.le_refl _⟩;simp only[go_sem,true_and,and_true,Int.ofNat_zero];exact⟨_,_,_,_,rfl,rfl,h0⟩
 ·clear z;rintro i fr u v ec ew ⟨t,o,td,od,f2,M,N,O,f9,L,⟨n,m,W,U⟩⟩;have a1:=qd X v;have S:=w _ (List.getElem_mem v);have s:=T _ (List.getElem_mem v);have V:=Xa S u u.next;rw[List.drop_eq_getElem_cons v,gI] at m;have G:(u.new u.next (.row l[i].cells)).at' u.next=some (.row l[i].cells):=zK _ _ _;have j:=n.ext ((Ext.refl u).new (Nat.le_refl _) (.row l[i].cells));have p:=λ(h:Heap)=>pK n.b.isSl (by omega:o.length<=1048576) l[i].out h;generalize l[i]=f at *
  simp only[Fac.cells,Ex.cells] at a1 V G j s;generalize hH:u.new u.next (.row [.int .i64 f.kind, .str f.comp, .str f.out, .int .i64 f.rel, .int .i64 f.way, .int .i64 f.duty, .bool f.chg, .int .i64 f.e.kind, .str f.e.name, .str f.e.exc,f.e.d,f.d])=H at *
  have ai:zN true 4 [.int .i64 f.kind, .str f.comp, .str f.out, .int .i64 f.rel, .int .i64 f.way, .int .i64 f.duty, .bool f.chg, .int .i64 f.e.kind, .str f.e.name, .str f.e.exc,f.e.d,f.d] 7=some (.agg [.int .i64 f.e.kind, .str f.e.name, .str f.e.exc,f.e.d]):=rfl;cases q2:(f.kind==1) with
  |true=>
   rw[ip q2] at m;cases B:(ju c f.e==0) with
   |true=>
    rw[ip B] at m;rw[zBy B] at s;have F:=Dh (ofL c f.e)
    repeat' first|simp only[go_sem, *]|apply bc<;>intro q|(refine zA.mono (s _) ?_;rintro r h ⟨y,rfl⟩)
    subst y;refine j.appH (zs:=aC [ofL c f.e]) og Pm jO ow (Iq _) (by simp[aC]) (by rw[sg,sg,Yr];unfold lim;simp;omega) (by rw[sg,sg];unfold lim;simp;omega) λK h' A=> ?_;have k:ValI c l R g (i+1) (t++ [ofL c f.e]) o K od h':=⟨by
     have:aC (t++ [ofL c f.e])=aC t++aC [ofL c f.e]:=by simp[aC]
     rw[this];exact A,m,by simp;omega,by omega⟩
    repeat' first|simp only[go_sem, *]|apply bc<;>intro q
    exact⟨_,_,_,_,rfl,rfl,k⟩
   |false=>
    rw[iq (by rw[B];exact Bool.false_ne_true)] at m;rw[Dg B] at s;have y:=I (.tuple [.nilsl, .nilsl, .int .i64 (ju c f.e)]) H ⟨j.a.1,by simp[z8,zx,below,zh], .nilsl, .nilsl,by rw[<-m];rfl, .inl ⟨rfl,by rw[<-m];rfl⟩, .inl ⟨rfl,by rw[<-m];rfl⟩⟩
    repeat' first|simp only[go_sem, *]|apply bc<;>intro q|(refine zA.mono (s _) ?_;rintro r h ⟨rfl,rfl⟩)
  |false=>
   rw[iq (by rw[q2];exact Bool.false_ne_true)] at m;cases B:(f.kind==2) with
   |true=>
    rw[ip B] at m;cases J:(o.any (· ==f.out)) with
    |true=>
     rw[ip J] at m;rw[J] at p;have k:ValI c l R g (i+1) t o td od H:=⟨j,m,by omega,by omega⟩
     repeat' first|simp only[go_sem, *]|apply bc<;>intro q|(refine zA.mono (p _) ?_;rintro r h ⟨y,rfl⟩)
     subst y;exact⟨_,_,_,_,rfl,rfl,k⟩
    |false=>
     rw[iq (by rw[J];exact Bool.false_ne_true)] at m;rw[J] at p;have F:=p8 f.out
     repeat' first|simp only[go_sem, *]|apply bc<;>intro q|(refine zA.mono (p _) ?_;rintro r h ⟨y,rfl⟩)
     subst y;refine j.swap.appH (zs:=yS [f.out]) yv jN uW ow ZX (by simp[yS]) (by rw[zz,tF];unfold lim;simp[yS];omega) (by rw[zz];unfold lim;simp[yS];omega) λK h' A=> ?_;have k:ValI c l R g (i+1) t (o++ [f.out]) td K h':=⟨by
      have:yS (o++ [f.out])=yS o++yS [f.out]:=by simp[yS]
      rw[this];exact A.swap,m,by omega,by simp;omega⟩
     repeat' first|simp only[go_sem, *]|apply bc<;>intro q
     exact⟨_,_,_,_,rfl,rfl,k⟩
   |false=>
    rw[iq (by rw[B];exact Bool.false_ne_true)] at m;have k:ValI c l R g (i+1) t o td od H:=⟨j,m,by omega,by omega⟩
    repeat' first|simp only[go_sem, *]|apply bc<;>intro q
    exact⟨_,_,_,_,rfl,rfl,k⟩
 ·rintro fr u ec ⟨t,o,td,od,f2,M,N,O,f9,L,⟨n,m,W,U⟩⟩;rw[List.drop_length,gI] at m;have D:=n.a.2.1.fin (QX t);have E:=n.b.2.1.fin (qT (l:=o));have y:=I (.tuple [td,od, .int .i64 0]) u ⟨n.a.1,by
   simp only[z8,zx,below,zh];exact⟨z7 (Nat.zero_le _) _ D.1,z7 (Nat.zero_le _) _ E.1,trivial,trivial⟩,z8 td,z8 od,by rw[<-m];rfl,by rw[<-m];exact D.2,by rw[<-m];exact E.2⟩
  exact au
def Wb (a b:List Trm):Bool:=jW zS a b==0
def lT (a b:List Trm):Wb a b=true↔a=b:=by
 unfold Wb;constructor
 ·intro h;exact Zl lP _ _ (by simpa using h)
 ·rintro rfl;simp[oH.list.refl]
def Di (a b:Nat):((a:Int)==(b:Int))=(a==b):=by
 by_cases h:a=b
 ·simp[h]
 ·rw[beq_eq_false_iff_ne.2 h,beq_eq_false_iff_ne.2 ow]
def Dj (x y:Trm) (c:Bool):pj prog .neq 130 c (.agg [.str x.a, .str x.b]) (.agg [.str y.a, .str y.b])=some (.bool (!(zS x y==0))):=by
 have d:eqT prog 130=some [.s, .s]:=by kernel_rfl
 rw[ox];simp only[pj,d,RX,eqK,Option.map_some,Bool.and_true,tI]
def Ir {a b:List Trm} (B:zd 2 (yU a) x) (C:zd 2 (yU b) y) (K:a.length<=1048576) (g:Heap):
  zA prog 78 [x,y] g λr h'=>h'=g/\r= .bool (Wb a b):=by
 have L:=yp B;have M:=yp C;refine xP λQ s=> ?_;have j:=s _ _ ⟨rfl,rfl⟩;clear s;refine xO mix func78 zHo rfl rfl ?_;simp only[f78,gJ];cases q:((a.length:Int)==(b.length:Int)) with
 |false=>
  have p:Wb a b=false:=by
   cases h:Wb a b with
   |false=>rfl
   |true=>rw[(lT _ _).1 h] at q;simp at q
  rw[p] at j;simp only[go_sem, *]
 |true=>
 have o:a.length<=b.length/\b.length<=a.length:=by have:=of_decide_eq_true q;omega
 obtain⟨t,w⟩:=o;simp only[go_sem, *];refine zC (λi fr h=>fr 0=x/\fr 1=y/\fr 12= .int .i64 (a.length:Int)/\fr 13= .int .i64 (i:Int)/\h=g/\a.take i=b.take i) a.length ow ?_ ?_ ?_
 ·simp only[go_sem,true_and,and_true,Int.ofNat_zero];rfl
 ·rintro i fr h f F J ⟨G,H,l,m,rfl,d⟩;have c:i<b.length:=ow;have D:=uH B f;have E:=uH C c;have z:=Dj a[i] b[i];have h1:∀ (e:(zS a[i] b[i]==0)=true),a.take (i+1)=b.take (i+1):=λe=>by
   have I:=lP a[i] b[i] (by simpa using e);rw[List.take_succ_eq_append_getElem f,List.take_succ_eq_append_getElem c,d,I]
  have n:∀ (e:(zS a[i] b[i]==0)=false),Wb a b=false:=λe=>by
   cases h:Wb a b with
   |false=>rfl
   |true=>
    have:=(lT _ _).1 h;subst this;rw[oH.refl] at e;exact absurd e (by decide)
  generalize a[i]=u at *
  generalize b[i]=v at *
  simp only[Trm.cells] at D E;cases k:(zS u v==0) with
  |true=>
   have A:=h1 k;rw[k] at z;clear h1 n d j;simp only[go_sem, *];refine zU kr ?_;simp only[go_sem, *]
  |false=>
   rw[n k] at j;rw[k] at z;clear h1 n d;simp only[go_sem, *];refine zU kr ?_;exact au
 ·rintro fr h F ⟨G,H,l,m,rfl,d⟩
  have:a=b:=by
   rw[List.take_length,show a.length=b.length by omega,List.take_length] at d;exact d
  rw[(lT _ _).2 this] at j;clear d this;exact au
def zGc {a b:List Trm} (e:zd 2 (yU a) x) (f:zd 2 (yU b) y) (d:a.length<=1048576) (i:g.at' id=some (.row [x])):
  zA prog 77 [y, .ptr id 0] g λr h'=>h'=g/\r= .bool (Wb a b):=by
 have c:=Ir e f d;refine xO mix func77 zHj rfl rfl ?_;simp only[f77,gJ]
 repeat' first|simp only[go_sem, *]|apply bc<;>intro c|(refine zA.mono (c _) ?_;rintro r h ⟨rfl,rfl⟩)
def Xu {l:List Lic} (n:zd 4 (pM l) d) (C:l.length<=1048576) {p:Lic->Bool} (z:∀s∈l,zA prog f ([]++ [.agg s.cells]++cap) g λr h'=>h'=g/\r= .bool (p s)):
  zA prog 150 [d, .fn (.func f) [] cap] g λr h'=>h'=g/\r= .int .i64 (Zf p l):=by
 have o:=wV n;refine xO mix func150 zAD rfl rfl ?_;simp only[f150,gJ]
 repeat' first|simp only[go_sem, *]|apply bc<;>intro m
 refine zC (λi fr h=>fr 1= .fn (.func f) [] cap/\fr 0=d/\fr 6=d/\fr 7= .int .i64 (l.length:Int)/\fr 8= .int .i64 (i:Int)/\h=g/\∀j (b:j<l.length),j<i->p l[j]=false) l.length ow ?_ ?_ ?_
 ·simp only[go_sem,true_and,and_true,Int.ofNat_zero];exact λj b h0=>by omega
 ·rintro i fr h a e1 B ⟨u,t,v,w,x,rfl,b⟩;have q:=uE n a;have e:=z _ (List.getElem_mem a);simp only[List.nil_append,List.cons_append,Lic.cells] at e;simp only[Lic.cells] at q;cases k:p l[i] with
  |true=>
   have A:=pN a b k;rw[k] at e
   repeat' first|simp only[go_sem, *]|apply bc<;>intro m|(refine zA.mono e ?_;rintro r h ⟨rfl,rfl⟩)
  |false=>
   have y:=qG (p:=p) a b k;rw[k] at e
   repeat' first|simp only[go_sem, *]|apply bc<;>intro m|(refine zA.mono e ?_;rintro r h ⟨rfl,rfl⟩)
   exact y
 ·rintro fr h e1 ⟨u,t,v,w,x,rfl,b⟩;have A:=pO (p:=p) λj c=>b j c c;exact au
def dV {l:List Lic} (b:zd 4 (pM l) d) (e:l.length<=1048576) {p:Lic->Bool} (i:∀s∈l,zA prog f ([]++ [.agg s.cells]++cap) g λr h'=>h'=g/\r= .bool (p s)):
  zA prog 79 [d, .fn (.func f) [] cap] g λr h'=>h'=g/\r= .bool (l.any p):=by
 have a:=Xu b e i;have c:=p9 (l:=l) (p:=p);refine xO mix func79 zHt rfl rfl ?_;simp only[f79,gJ]
 repeat' first|simp only[go_sem, *]|apply bc<;>intro j|(refine zA.mono a ?_;rintro r h ⟨rfl,rfl⟩)
def zGd (x:Lic) (s:List UInt8) (a:g.at' id=some (.row [.str s])):
  zA prog 80 [.agg x.cells, .ptr id 0] g λr h'=>h'=g/\r= .bool (x.name==s):=by
 refine xO mix func80 zHz rfl rfl ?_;simp only[f80,gJ];simp only[Lic.cells];exact au
structure Cho where
 ts:List Alt
 own:List (List UInt8)
structure Alt.Sm (a:Alt):Prop where
 sl:zd 2 (yU a.ts) a.d
 len:a.ts.length<=1048576
def Xv (y:Cho) (d:D):Prop:=∃a b,d= .agg [a,b]/\zd 1 (zm y.ts) a/\zd 1 (yS y.own) b
structure Cho.Sm (y:Cho):Prop where
 tl:y.ts.length<=1048576
 ol:y.own.length<=1048576
 ts:∀a∈y.ts,a.Sm
def nC (v:List (List (List Trm))) (ts:List Alt) (p:Bool) (i:Nat):Int:=match ts[i]? with
 |none=>0
 |some a=>if(p&&((a.ts.length:Int)==0))=true then 0 else if(!((v.getD i []).any λb=>Wb a.ts b))=true then 1 else 0
def Lj (c:Cat) (own:List (List UInt8)) (p:Bool) (i:Nat):Int:=match own[i]? with
 |none=>0
 |some s=>if(p&&(s== []))=true then 0 else if(!(c.ls.any λx=>x.name==s))=true then 7 else 0
def zw (c:Cat) (l:List Fac) (y:Cho) (p:Bool):Int:=
 if(!((za c l).2.2==0))=true then(za c l).2.2
 else if(!((y.ts.length:Int)==((za c l).1.length:Int))|| !((y.own.length:Int)==((za c l).2.1.length:Int)))=true then 9
 else if(!(nw (nC (za c l).1 y.ts p) y.ts.length==0))=true then nw (nC (za c l).1 y.ts p) y.ts.length
 else nw (Lj c y.own p) y.own.length
def zBz (h:(ju c e==0)=true):(ofL c e).length<=64/\AltsOk 64 (ofL c e):=by
 unfold ju at h;unfold ofL;split at h
 ·rename_i q;obtain⟨_,b,h3⟩:=Lf (show u9 c e=0 by simpa using q);split at h
  ·rename_i l a;have:=(Vr (c:=c) e.size).1 e (Nat.le_refl _) h3 l a;rw[a];exact⟨this.1,this.2.mono b⟩
  ·exact absurd h (by decide)
 ·rename_i q;exact absurd h q
theorem Zu:∀ {l:List Fac} {t:List (List (List Trm))} {o:List (List UInt8)},(∀a∈t,a.length<=64/\AltsOk 64 a)->∀a∈(gI c l t o).1,a.length<=64/\AltsOk 64 a
 | [],t,o,h=>by rw[gI];exact h
 |f::fs,t,o,h=>by
  rw[gI];split
  ·split
   ·rename_i q;exact Zu λa b=>by
     rcases List.mem_append.1 b with g|g
     ·exact h a g
     ·cases List.mem_singleton.1 g;exact zBz q
   ·intro a b;cases b
  ·split
   ·exact Zu h
   ·exact Zu h
def tR {l:List Fac} :∀a∈(za c l).1,a.length<=64/\AltsOk 64 a:=by
 unfold za;split
 ·intro a b;cases b
 ·exact Zu λa b=>by cases b
theorem Zv (C:yu c d) (hs:c.Sm) {l:List Fac} (hx:zd 12 (nz l) x) (hl:l.length<=1048576) (a5:∀f∈l,f.Ok) {y:Cho} (hy:Xv y z) (a8:y.Sm) (p:Bool) (g:Heap):
  zA prog 39 [d,x,z, .bool p] g λr h'=>h'=g/\r= .int .i64 (zw c l y p):=by
 have V:=Zt C hs hx hl a5;have bb:=C;obtain⟨ca,cb,ce,cp,rfl,a3,_,_,_⟩:=C;obtain⟨ya,yb,rfl,P,hb⟩:=hy;obtain⟨y1,y2,y3⟩:=a8;have bo:=qN P;have bs:=yL hb;refine xU kr λa9=> ?_;refine xP λQ hQ=> ?_;obtain⟨E,w⟩:∃E,zw c l y p=E:=⟨_,rfl⟩;have m:∀h',Ext g h'->Q (.int .i64 E) h':=λh' I=>hQ _ _ ⟨I,trivial,by rw[w]⟩;clear hQ;unfold zw at w;refine xO mix func39 zHQ rfl rfl ?_;simp only[f39,gJ]
 repeat' first|simp only[go_sem, *]|apply bc<;>intro C
 refine(V _).mono ?_;rintro r h ⟨B,td,od,rfl,J,M⟩;subst B;clear V;have X:=Ext.refl h;have J:zd 1 (aC (za c l).1) td:=J.isSl;have M:zd 1 (yS (za c l).2.1) od:=M.isSl;have a4:=pY J;have bk:=yL M;have a7:∀a∈(za c l).1,a.length<=1048576:=λa P=>Nat.le_trans (tR a P).1 ow;cases q1:((za c l).2.2==0) with
 |false=>
  rw[ip (by rw[q1];rfl)] at w;have B:=m h X;rw[<-w] at B;clear m w
  repeat' first|simp only[go_sem, *]|apply bc<;>intro C
 |true=>
 rw[iq (by rw[q1];decide)] at w;generalize za c l=v at *
 cases R:((y.ts.length:Int)==(v.1.length:Int)) with
 |false=>
  rw[ip (by rw[R];rfl)] at w;have B:=m h X;rw[<-w] at B;clear m w
  repeat' first|simp only[go_sem, *]|apply bc<;>intro C
 |true=>
 cases q3:((y.own.length:Int)==(v.2.1.length:Int)) with
 |false=>
  rw[ip (by rw[R,q3];rfl)] at w;have B:=m h X;rw[<-w] at B;clear m w
  repeat' first|simp only[go_sem, *]|apply bc<;>intro C
 |true=>
 rw[iq (by rw[R,q3];decide)] at w;have T:y.ts.length<=v.1.length:=by have:=of_decide_eq_true R;omega
 obtain⟨F,S⟩:∃F,nw (nC v.1 y.ts p) y.ts.length=F:=⟨_,rfl⟩;rw[S] at w
 repeat' first|simp only[go_sem, *]|apply bc<;>intro C
 clear q1;refine zC (λi fr u=>fr 3= .bool p/\fr 4= .iptr [ca,cb,ce,cp] 0/\fr 6= .iptr [ya,yb] 0/\fr 9=td/\fr 41=ya/\fr 42= .int .i64 (y.ts.length:Int)/\fr 43= .int .i64 (i:Int)/\Ext h u/\∀j,j<i->nC v.1 y.ts p j=0) y.ts.length ow ?_ ?_ ?_
 ·have h0:∀j,j<0->nC v.1 y.ts p j=0:=λj D=>absurd D (Nat.not_lt_zero _);simp only[go_sem,true_and,and_true,Int.ofNat_zero];exact⟨X,h0⟩
 ·rintro i fr u G ec ew ⟨Y,Z,f6,f9,ad,ag,ai,I,D⟩;have a1:=ue P G;have a2:=Zs J (show i<v.1.length by omega);have sm:=y3 _ (List.getElem_mem G);have k:nC v.1 y.ts p i=if(p&&((y.ts[i].ts.length:Int)==0))=true then 0 else if(!(v.1[i].any λb=>Wb y.ts[i].ts b))=true then 1 else 0:=by
   unfold nC;rw[List.getElem?_eq_getElem G];simp only;rw[List.getD_eq_getElem?_getD,List.getElem?_eq_getElem ow];rfl
  have q:=λ(e:nC v.1 y.ts p i=0)=>wq (f:=nC v.1 y.ts p) D e;have o:=λ(e:nC v.1 y.ts p i≠0)=>pQ (f:=nC v.1 y.ts p) G D e;rw[S] at o;have N:(u.new u.next (.row [y.ts[i].d])).at' u.next=some (.row [y.ts[i].d]):=zK _ _ _;have K:=I.new I.1 (.row [y.ts[i].d]);have n:=oI (l:=v.1[i].map mkA) (d:=Vt v.1[i]) (zd.mk .no) (by rw[List.length_map];exact a7 _ (List.getElem_mem _)) (f:=77) (cap:=[.ptr u.next 0]) (p:=λb=>Wb y.ts[i].ts b.ts) (g:=u.new u.next (.row [y.ts[i].d])) (λs hs=>by
   obtain⟨t,ht,rfl⟩:=List.mem_map.1 hs;exact⟨zd.mk .no,zGc sm.sl (zd.mk .no) sm.len N⟩)
  have O:(v.1[i].map mkA).any (λb=>Wb y.ts[i].ts b.ts)=v.1[i].any λb=>Wb y.ts[i].ts b:=by rw[List.any_map];rfl
  rw[O] at n;clear O;obtain⟨k1,k2,k3⟩:=zI sm.sl;have bx:=yp sm.sl;generalize y.ts[i]=a at *
  generalize v.1[i]=b at *
  have a6:zQ prog 128 (.ptr u.next 0) a.d (u.new u.next (.row [.nilsl]))=some (u.new u.next (.row [a.d])):=by
   rw[zR (off:=0) (zK _ _ _) yo (by simp) k1 k3,p5];rfl
  have ba:(Vt b).notTuple=true:=rfl;generalize u.new u.next (.row [a.d])=H at *
  clear D S P hb J M y3 sm R q3;cases U:p with
  |true=>
   subst U;cases W:((a.ts.length:Int)==0) with
   |true=>
    have L:=q (by rw[k,W];rfl);clear q o k n m w
    repeat' first|simp only[go_sem, *]|apply bc<;>intro C
    exact L
   |false=>
    rw[iq (by rw[W];decide)] at k;cases A:(b.any λt=>Wb a.ts t) with
    |true=>
     have L:=q (by rw[k,A];rfl);rw[A] at n;clear q o k m w
     repeat' first|simp only[go_sem, *]|apply bc<;>intro C|(refine zA.mono n ?_;rintro r h ⟨B,rfl⟩)
     subst B;exact L
    |false=>
     have h1:F=1:=by rw[o (by rw[k,A];decide),k,A];rfl
     subst h1;rw[ip (by decide)] at w;have B:=m H K;rw[<-w] at B;rw[A] at n;clear q o k m w
     repeat' first|simp only[go_sem, *]|apply bc<;>intro C|(refine zA.mono n ?_;rintro r h ⟨rfl,rfl⟩)
  |false=>
   subst U;rw[iq (by rw[Bool.false_and];decide)] at k;cases A:(b.any λt=>Wb a.ts t) with
   |true=>
    have L:=q (by rw[k,A];rfl);rw[A] at n;clear q o k m w
    repeat' first|simp only[go_sem, *]|apply bc<;>intro C|(refine zA.mono n ?_;rintro r h ⟨B,rfl⟩)
    subst B;exact L
   |false=>
    have h1:F=1:=by rw[o (by rw[k,A];decide),k,A];rfl
    subst h1;rw[ip (by decide)] at w;have B:=m H K;rw[<-w] at B;rw[A] at n;clear q o k m w
    repeat' first|simp only[go_sem, *]|apply bc<;>intro C|(refine zA.mono n ?_;rintro r h ⟨rfl,rfl⟩)
 ·rintro fr u ec ⟨Y,Z,f6,f9,ad,ag,ai,I,D⟩;have a0:F=0:=by rw[<-S];exact wL D
  subst a0;rw[iq (by decide)] at w;clear S D J a4 T R q3
  repeat' first|simp only[go_sem, *]|apply bc<;>intro C
  refine zC (λi fr u=>fr 3= .bool p/\fr 4= .iptr [ca,cb,ce,cp] 0/\fr 63=yb/\fr 64= .int .i64 (y.own.length:Int)/\fr 65= .int .i64 (i:Int)/\Ext h u/\∀j,j<i->Lj c y.own p j=0) y.own.length ow ?_ ?_ ?_
  ·have h0:∀j,j<0->Lj c y.own p j=0:=λj D=>absurd D (Nat.not_lt_zero _);simp only[go_sem,true_and,and_true,Int.ofNat_zero];exact⟨Y,Z,I,h0⟩
  ·clear I;rintro i fr u G ec ew ⟨Y,Z,aj,f64,ak,I,D⟩;have a1:=wD hb G;have k:Lj c y.own p i=if(p&&(y.own[i]== []))=true then 0 else if(!(c.ls.any λx=>x.name==y.own[i]))=true then 7 else 0:=by
    unfold Lj;rw[List.getElem?_eq_getElem G]
   have q:=λ(e:Lj c y.own p i=0)=>wq (f:=Lj c y.own p) D e;have o:=λ(e:Lj c y.own p i≠0)=>pQ (f:=Lj c y.own p) G D e;rw[w] at o;generalize y.own[i]=s at *
   have N:(u.new u.next (.row [.str s])).at' u.next=some (.row [.str s]):=zK _ _ _;have K:=I.new I.1 (.row [.str s]);have n:=dV a3 hs.ls.1 (f:=80) (cap:=[.ptr u.next 0]) (p:=λx=>x.name==s) (g:=u.new u.next (.row [.str s])) (λx _=>zGd x s N);have a6:zQ prog 9 (.ptr u.next 0) (.str s) (u.new u.next (.row [.str []]))=some (u.new u.next (.row [.str s])):=by
    rw[zR (off:=0) (zK _ _ _) uW (by simp) rfl rfl,p5];rfl
   generalize u.new u.next (.row [.str s])=H at *
   clear D w P hb M y3;cases U:p with
   |true=>
    subst U;cases W:(s== []) with
    |true=>
     have L:=q (by rw[k,W];rfl);clear q o k n m
     repeat' first|simp only[go_sem, *]|apply bc<;>intro C
     exact L
    |false=>
     rw[iq (by rw[W];decide)] at k;cases A:(c.ls.any λx=>x.name==s) with
     |true=>
      have L:=q (by rw[k,A];rfl);rw[A] at n;clear q o k m
      repeat' first|simp only[go_sem, *]|apply bc<;>intro C|(refine zA.mono n ?_;rintro r h ⟨B,rfl⟩)
      subst B;exact L
     |false=>
      have h1:E=7:=by rw[o (by rw[k,A];decide),k,A];rfl
      subst h1;have B:=m H K;rw[A] at n;clear q o k m
      repeat' first|simp only[go_sem, *]|apply bc<;>intro C|(refine zA.mono n ?_;rintro r h ⟨rfl,rfl⟩)
   |false=>
    subst U;rw[iq (by rw[Bool.false_and];decide)] at k;cases A:(c.ls.any λx=>x.name==s) with
    |true=>
     have L:=q (by rw[k,A];rfl);rw[A] at n;clear q o k m
     repeat' first|simp only[go_sem, *]|apply bc<;>intro C|(refine zA.mono n ?_;rintro r h ⟨B,rfl⟩)
     subst B;exact L
    |false=>
     have h1:E=7:=by rw[o (by rw[k,A];decide),k,A];rfl
     subst h1;have B:=m H K;rw[A] at n;clear q o k m
     repeat' first|simp only[go_sem, *]|apply bc<;>intro C|(refine zA.mono n ?_;rintro r h ⟨rfl,rfl⟩)
  ·clear I;rintro fr u ec ⟨Y,Z,aj,f64,ak,I,D⟩;have h1:E=0:=by rw[<-w];exact wL D
   subst h1;have B:=m u I;clear D m w;exact au
def Xw (l:List Int):∀x∈qP l,x.length=1:=λx a=>by
 obtain⟨s,_,rfl⟩:=mem_map.1 a;rfl
def dW (l:List Int):∀x∈qP l,yh x:=λx a=>by
 obtain⟨s,_,rfl⟩:=mem_map.1 a;exact⟨rfl,by simp[zh,below],rfl⟩
def RE (n:Int) (nid:Nat) (h:Heap):zJ prog false nid 45 1 [(0, .int .i64 n)] h=some (.sl 1 [[.int .i64 n]] .full,h):=
 zy (P:=prog) (x:= .int .i64 n) yK uV wW rfl rfl ow ow rfl rfl
def QY (c:Cat) (t:List (List (List Trm))) (o:List (List UInt8)) (cs:List D):Prop:=∃td od a b e p,cs= [td,od,a,b,e,p]/\zd 1 (aC t) td/\zd 1 (yS o) od/\yu c (.agg [a,b,e,p])
def Vu (c:Cat) (t:List (List (List Trm))) (o:List (List UInt8)):List Nat:=t.map List.length++o.map λ_=>c.ls.length
def kZ (l:List Nat):List Int:=l.map λ(n:Nat)=>(n:Int)
def Xx (l:List Int) (n:Int):qP (l++ [n])=qP l++qP [n]:=by simp[qP]
def FE (a b c d e f:D):zN true 6 [a,b,c,d,e,f] 0=some (.agg [a,b,c,d,e,f]):=zB rfl ow
def Lk {t:List (List (List Trm))} {o:List (List UInt8)} (S:QY c t o cs) (hs:c.Sm) (V:t.length<=1048576) (U:o.length<=1048576) (g:Heap):
  zA prog 198 [.agg cs] g λr h'=>h'=g/\Fin 1 (qP (kZ (Vu c t o))) r:=by
 obtain⟨td,od,a,b,e,p,rfl,B,I,R⟩:=S;obtain⟨_,_,_,_,H,v,_,_,_⟩:=R;cases H;have l1:=pY B;have l2:=yL I;have l3:=wV v;have K:=λ(x:List (List Trm)) (h:Heap)=>qN (l:=x.map mkA) (d:=Vt x) (zd.mk .no) h;have W:∀ (x:List (List Trm)) (h:Heap),sD prog 30 (Vt x) h=some (.int .i64 (x.length:Int)):=λx h=>by have:=K x h;rwa [length_map] at this
 clear K;refine xU kr λJ=>xS ?_;refine xP λQ A=> ?_;have G:=Own.start (Ext.refl g) 1;refine xO mix func198 Ac rfl rfl ?_;simp only[f198,gJ];simp only[go_sem, *];refine zC (λi fr h=>∃s,fr 1= .iptr [td,od,a,b,e,p] 0/\fr 7=td/\fr 8= .int .i64 (t.length:Int)/\fr 9= .int .i64 (i:Int)/\fr 3=s/\Own g h 1 (qP (kZ ((t.take i).map List.length))) s) t.length ow ?_ ?_ ?_
 ·simp only[go_sem,true_and,and_true,Int.ofNat_zero];exact⟨_,rfl,G⟩
 ·rintro i fr h q C M ⟨s,y,N,O,P,z,f⟩;have X:=Zs B q;have Y:=W t[i];have n:kZ ((t.take (i+1)).map List.length)=kZ ((t.take i).map List.length)++ [(t[i].length:Int)]:=by rw[take_succ_eq_append_getElem q,map_append];simp only[kZ,map_append];rfl
  have k:(kZ ((t.take i).map List.length)).length=i:=by simp[kZ];omega
  rw[n];clear n;generalize t[i]=x at *
  generalize kZ ((t.take i).map List.length)=pre at *
  have w:=RE (x.length:Int);have T:(Vt x).notTuple=true:=rfl;clear A B I v;simp only[go_sem, *];refine f.appH (ys:=qP [(x.length:Int)]) yK Yp wW ow (Xw _) (by simp[qP]) (by rw[yN,mf,k];unfold lim;simp[qP];omega) (by rw[yN,k];unfold lim;simp[qP];omega) λL h' m=> ?_;rw[<-Xx] at m;clear f;simp only[go_sem, *];exact⟨_,rfl,m⟩
 ·rintro fr h C ⟨s,y,N,O,P,z,f⟩;rw[take_length] at f;have u:∀j,kZ (t.map List.length++(o.take j).map λ_=>c.ls.length)=kZ (t.map List.length)++kZ ((o.take j).map λ_=>c.ls.length):=λj=>by simp[kZ]
  simp only[go_sem, *];refine zC (λi fr h=>∃s,fr 1= .iptr [td,od,a,b,e,p] 0/\fr 20=od/\fr 21= .int .i64 (o.length:Int)/\fr 22= .int .i64 (i:Int)/\fr 3=s/\Own g h 1 (qP (kZ (t.map List.length++(o.take i).map λ_=>c.ls.length))) s) o.length ow ?_ ?_ ?_
  ·have h0:Own g h 1 (qP (kZ (t.map List.length++(o.take 0).map λ_=>c.ls.length))) s:=by simpa using f
   simp only[go_sem,true_and,and_true,Int.ofNat_zero];exact⟨s,y,z,h0⟩
  ·clear f;rintro i fr h q C M ⟨s,y,D,E,F,z,f⟩;have n:kZ (t.map List.length++(o.take (i+1)).map λ_=>c.ls.length)=kZ (t.map List.length++(o.take i).map λ_=>c.ls.length)++ [(c.ls.length:Int)]:=by rw[take_succ_eq_append_getElem q,map_append,<-append_assoc];simp only[kZ,map_append];rfl
   have k:(kZ (t.map List.length++(o.take i).map λ_=>c.ls.length)).length=t.length+i:=by simp[kZ];omega
   rw[n];clear n u;generalize kZ (t.map List.length++(o.take i).map λ_=>c.ls.length)=pre at *
   have w:=RE (c.ls.length:Int);clear A B I v;simp only[go_sem, *];refine f.appH (ys:=qP [(c.ls.length:Int)]) yK Yp wW ow (Xw _) (by simp[qP]) (by rw[yN,mf,k];unfold lim;simp[qP];omega) (by rw[yN,k];unfold lim;simp[qP];omega) λL h' m=> ?_;rw[<-Xx] at m;clear f;simp only[go_sem, *];exact⟨_,rfl,m⟩
  ·clear f;rintro fr h C ⟨s,y,D,E,F,z,f⟩;rw[take_length] at f;have hf:=f.2.1.fin (dW _);have Z:=A s h ⟨f.1,z7 (zero_le _) _ hf.1,hf.2⟩;clear A f hf u;exact au
def K6:List Nat->Nat->Nat
 | [],n=>n
 |r::rs,n=>if n*r>4096 then n*r else K6 rs (n*r)
def K7 (l:List Nat):Nat:=if l.any (· ==0) then 0 else K6 l 1
def Ll {t:List (List (List Trm))} {o:List (List UInt8)} (M:QY c t o cs) (O:c.Sm) (ad:t.length<=524288) (Y:o.length<=524288) (hr:∀x∈t,x.length<=1048576) (g:Heap):
  zA prog 117 [.agg cs] g λr h'=>h'=g/\r= .int .i64 ((K7 (Vu c t o):Nat):Int):=by
 have H:=Lk M O ow ow;obtain⟨td,od,a,b,e,p,rfl,ht,ho,u⟩:=M;have h6:=FE;have I:∀r∈Vu c t o,r<=1048576:=λr G=>by
  rcases mem_append.1 G with q|q
  ·obtain⟨x,P,rfl⟩:=mem_map.1 q;exact hr x P
  ·obtain⟨x,P,rfl⟩:=mem_map.1 q;exact O.ls.1
 have W:(Vu c t o).length<=1048576:=by simp[Vu];omega
 refine xP λQ V=> ?_;have f:=V _ _ ⟨rfl,rfl⟩;unfold K7 at f;generalize Vu c t o=L at *
 refine xO mix func117 AX rfl rfl ?_;simp only[f117,gJ]
 repeat' first|simp only[go_sem, *]|apply bc<;>intro u
 refine(H _).mono ?_;rintro r h ⟨F,hf⟩;subst F;have k:=hf.isSl;have E:(kZ L).length=L.length:=by simp[kZ]
 have d:=dB k ow 0;have l:=wU k;rw[E] at l;have B:((kZ L).any λx=>x==0)=L.any (· ==0):=by
  rw[kZ,any_map];congr 1
  funext x
  exact Di x 0
 rw[B] at d;cases q:L.any (· ==0) with
 |true=>
  rw[ip q] at f;have Z:Q (.int .i64 0) h:=f;rw[q] at d
  repeat' first|simp only[go_sem, *]|apply bc<;>intro u|(refine zA.mono (d _) ?_;rintro r h ⟨rfl,rfl⟩)
 |false=>
 rw[iq (by rw[q];exact Bool.false_ne_true)] at f;rw[q] at d;obtain⟨R,J⟩:∃R,K6 L 1=R:=⟨_,rfl⟩;rw[J] at f
 repeat' first|simp only[go_sem, *]|apply bc<;>intro u|(refine zA.mono (d _) ?_;rintro r h ⟨F,rfl⟩)
 subst F
 rename Heap=>g
 refine zC (λi fr h=>∃n:Nat,fr 11=r/\fr 12= .int .i64 (L.length:Int)/\fr 13= .int .i64 (i:Int)/\fr 4= .int .i64 (n:Int)/\h=g/\n<=4096/\K6 (L.drop i) n=R) L.length ow ?_ ?_ ?_
 ·simp only[go_sem,true_and,and_true,Int.ofNat_zero];exact⟨1,rfl,by omega,J⟩
 ·rintro i fr h s T ew ⟨n,v,w,z,U,rfl,N,j⟩;have S:=rJ k (show i<(kZ L).length by omega);have D:(kZ L)[i]'ow=((L[i]:Nat):Int):=by simp[kZ]
  rw[D] at S;have A:=I _ (getElem_mem s);rw[drop_eq_getElem_cons s,K6] at j;generalize L[i]=y at *
  have hm:n*y<=4096*1048576:=Nat.mul_le_mul N A;have hw:IntKind.i64.wrap ((n:Int)*(y:Int))=((n*y:Nat):Int):=by rw[zj (by rw[<-Int.natCast_mul];omega) (by rw[<-Int.natCast_mul];omega),Int.natCast_mul]
  generalize X:n*y=m at *
  by_cases K:m>4096
  ·have e1:decide ((m:Int)>4096)=true:=decide_eq_true ow;rw[ip K] at j;subst j;exact au
  ·have e1:decide ((m:Int)>4096)=false:=decide_eq_false ow;rw[iq K] at j;have C:m<=4096:=ow
   repeat' first|simp only[go_sem, *]|apply bc<;>intro u
   exact⟨m,rfl,C,j⟩
 ·rintro fr h T ⟨n,v,w,z,U,rfl,N,j⟩;rw[drop_length,K6] at j;subst j;exact au
def zGe:zb prog QJ f160=true:=by kernel_rfl
def Lm (h0:ts≠[]) (o:ts.length<=1048576) (g:Heap):
  zA prog 160 [(mkA ts).d] g λr h'=>h'=g/\r=(mkA ts).d:=by
 refine xU kr λk=>xS ?_;have c:Ext g g:=Ext.refl g;have j:(mkA ts).d= .sl 2 (yU ts) .no:=rfl;rw[j];have p:pj prog .eql 128 true (.sl 2 (yU ts) .no) .nilsl=some (.bool false):=by rw[uC (zd.mk .no) underlying128];rfl
 have t:=λnid h=>qe (P:=prog) (nid:=nid) (h:=h) yY qw yt rfl rfl (by omega:0<2);have i:zt prog false g.next 128 (.sl 2 [] .full) (.sl 2 (yU ts) .no) g=some (.sl 2 (yU ts) (.own g.next),g.new g.next .tok):=by
  rw[jP yY hA yt ow (wx ts) (by rw[rc,yQ];unfold lim;omega) (by rw[yQ];unfold lim;omega),iq (by rw[yQ];exact λq=>h0 (List.length_eq_zero_iff.1 q))]
 have e:=c.new (Nat.le_refl _) .tok;have a:=yG (sz:=2) (xs:=yU ts) (λx l=>by
  obtain⟨y,_,rfl⟩:=List.mem_map.1 l;exact⟨rfl,by simp[Trm.cells,zh,below],rfl⟩) (.own g.next)
 have b:below g.next (z8 (.sl 2 (yU ts) (.own g.next)))/\z8 (.sl 2 (yU ts) (.own g.next))= .sl 2 (yU ts) .no:=⟨by rw[a.1];exact z7 (Nat.zero_le _) _ a.2,a.1⟩;obtain⟨m,n⟩:=b;refine xP λQ f=> ?_;have s:=f _ _ ⟨e,m,n⟩;refine xO mix func160 zGe rfl rfl ?_;simp only[f160,gJ];simp only[go_sem,zDQ, *]
def nd (sz:Nat):List (List D)->D
 | []=> .nilsl
 |x::xs=> .sl sz (x::xs) .no
theorem lU {c:Cat} :∀ {l:List Fac} {t:List (List (List Trm))} {o:List (List UInt8)},(gI c l t o).1.length<=t.length+l.length/\(gI c l t o).2.1.length<=o.length+l.length
 | [],t,o=>by rw[gI];simp
 |f::fs,t,o=>by
  rw[gI];split
  ·split
   ·have:=lU (c:=c) (l:=fs) (t:=t++ [ofL c f.e]) (o:=o);simp only[List.length_append,List.length_cons,List.length_nil] at this⊢;omega
   ·simp
  ·split
   ·split
    ·have:=lU (c:=c) (l:=fs) (t:=t) (o:=o);simp only[List.length_cons];omega
    ·have:=lU (c:=c) (l:=fs) (t:=t) (o:=o++ [f.out]);simp only[List.length_append,List.length_cons,List.length_nil] at this⊢;omega
   ·have:=lU (c:=c) (l:=fs) (t:=t) (o:=o);simp only[List.length_cons];omega
def oy {l:List Fac} :(za c l).1.length<=l.length/\(za c l).2.1.length<=l.length:=by
 unfold za;split
 ·simp
 ·have:=lU (c:=c) (l:=l) (t:=[]) (o:=[]);simpa using this
def Dk (c:Cat) (l:List Fac):Nat:=K7 (Vu c (za c l).1 (za c l).2.1)
def yr (c:Cat) (l:List Fac):Int:=if(!((za c l).2.2==0))=true then(za c l).2.2 else if decide ((Dk c l:Int)>4096)=true then 10 else 0
abbrev Xy:List D:=[.nilsl, .nilsl, .nilsl, .nilsl, .nilsl, .nilsl]
def dX {a b e p:D} (h:yu c (.agg [a,b,e,p])):(a.flat=true/\b.flat=true)/\e.flat=true/\p.flat=true:=by
 obtain⟨_,_,_,_,d,f,g,i,j⟩:=h;cases d;exact⟨⟨(zI f).2.2,(zI g).2.2⟩,(zI i).2.2,(zI j).2.2⟩
def Ln {a b e p:D} (h:yu c (.agg [a,b,e,p])):(a.cells= [a]/\b.cells= [b])/\e.cells= [e]/\p.cells= [p]:=by
 obtain⟨_,_,_,_,d,f,g,i,j⟩:=h;cases d;exact⟨⟨(zI f).1,(zI g).1⟩,(zI i).1,(zI j).1⟩
theorem Lo (j:yu c d) (I:c.Sm) {l:List Fac} (W:zd 12 (nz l) x) (hl:l.length<=65536) (A:∀f∈l,f.Ok) (g:Heap):
  zA prog 116 [d,x] g λr h'=>Ext g h'/\∃cs,r= .tuple [.agg cs, .int .i64 (yr c l)]/\(cs.length=6/\cs.all D.flat=true)/\(yr c l=0->QY c (za c l).1 (za c l).2.1 cs):=by
 have E:=Zt j I W ow A;obtain⟨X,Y⟩:=oy (c:=c) (l:=l);have C:=λcs (w:QY c (za c l).1 (za c l).2.1 cs)=>Ll w I ow ow λa T=>Nat.le_trans (tR a T).1 ow;have k:=j;obtain⟨ca,cb,ce,cp,rfl,_,_,_,_⟩:=j;obtain⟨⟨N,O⟩,P,R⟩:=dX k;obtain⟨⟨Z,D2⟩,D3,D4⟩:=Ln k;have h6:=FE;refine xP λQ z=> ?_;have U:yA prog 189 []=some (.agg Xy):=by simp[yA,fM,Yt,qL,D.notTuple,D.cells]
 obtain⟨G,hG,L,y,n0⟩:∃G,g.new g.next (.row Xy)=G/\G.at' g.next=some (.row Xy)/\Ext g G/\g.next<G.next:=⟨_,rfl,zK _ _ _,(Ext.refl g).new (Nat.le_refl _) _,by rw[zF];omega⟩;have u:∀cs:List D,cs.length=6->cs.all D.flat=true->zQ prog 189 (.ptr g.next 0) (.agg cs) G=some (G.set g.next (.row cs)):=λcs h1 S=>yq L (by rw[kJ,h1]) (by rw[h1];rfl) ow S;refine xO mix func116 zA8 rfl rfl ?_;simp only[f116,gJ]
 repeat' first|simp only[go_sem, *]|apply bc<;>intro j
 refine(E _).mono ?_;rintro r h ⟨hq,td,od,rfl,o,n⟩;cases v:((za c l).2.2==0) with
 |false=>
  have i:yr c l=(za c l).2.2:=by unfold yr;rw[v];rfl
  have t:=u Xy rfl rfl;have q:=zD G g.next (.row Xy);have s:=z (.tuple [.agg Xy, .int .i64 (za c l).2.2]) (G.set g.next (.row Xy)) ⟨y.set (Nat.le_refl _) _,Xy,by rw[i],⟨rfl,rfl⟩,λe=>by rw[i] at e;rw[e] at v;exact absurd v (by decide)⟩
  repeat' first|simp only[go_sem, *]|apply bc<;>intro j
 |true=>
 have V:yA prog 189 [(0,td),(1,od),(2, .agg [ca,cb,ce,cp])]=some (.agg [td,od,ca,cb,ce,cp]):=by
  rcases o.isSl with⟨rfl,_⟩ | ⟨_,rfl⟩ <;>rcases n.isSl with⟨rfl,_⟩ | ⟨_,rfl⟩ <;>simp[yA,fM,Yt,qL,yV,D.cells,D.notTuple]
 have w:QY c (za c l).1 (za c l).2.1 [td,od,ca,cb,ce,cp]:=⟨_,_,_,_,_,_,rfl,o.isSl,n.isSl,k⟩;have b:=C _ w;have m:([td,od,ca,cb,ce,cp]:List D).all D.flat=true:=by simp[(zI o.isSl).2.2,(zI n.isSl).2.2,N,O,P,R]
 have J:zQ prog 189 (.ptr G.next 0) (.agg [td,od,ca,cb,ce,cp]) (G.new G.next (.row Xy))=some (G.new G.next (.row [td,od,ca,cb,ce,cp])):=zf kJ ow rfl rfl m;obtain⟨H,hH,r1,F,n1,M⟩:∃H,G.new G.next (.row [td,od,ca,cb,ce,cp])=H/\H.at' G.next=some (.row [td,od,ca,cb,ce,cp])/\Ext G H/\g.next<H.next/\H.at' g.next=some (.row Xy):=⟨_,rfl,zK _ _ _,(Ext.refl G).new (Nat.le_refl _) _,by rw[zF];omega,by rw[zH ow];exact L⟩;have p:K7 (Vu c (za c l).1 (za c l).2.1)=Dk c l:=rfl;rw[p] at b;cases K:decide ((Dk c l:Int)>4096) with
 |true=>
  have i:yr c l=10:=by unfold yr;rw[v,K];rfl
  have t:zQ prog 189 (.ptr g.next 0) (.agg Xy) H=some (H.set g.next (.row Xy)):=yq M kJ rfl (by decide) rfl;have q:=zD H g.next (.row Xy);have s:=z (.tuple [.agg Xy, .int .i64 10]) (H.set g.next (.row Xy)) ⟨(y.trans F).set (Nat.le_refl _) _,Xy,by rw[i],⟨rfl,rfl⟩,λe=>by rw[i] at e;exact absurd e (by decide)⟩
  repeat' first|simp only[go_sem, *]|apply bc<;>intro j|(refine zA.mono (b _) ?_;rintro r h ⟨B,rfl⟩)
 |false=>
  have i:yr c l=0:=by unfold yr;rw[v,K];rfl
  have t:zQ prog 189 (.ptr g.next 0) (.agg [td,od,ca,cb,ce,cp]) H=some (H.set g.next (.row [td,od,ca,cb,ce,cp])):=yq M kJ rfl (by simp) m;have q:=zD H g.next (.row [td,od,ca,cb,ce,cp]);have s:=z (.tuple [.agg [td,od,ca,cb,ce,cp], .int .i64 0]) (H.set g.next (.row [td,od,ca,cb,ce,cp])) ⟨(y.trans F).set (Nat.le_refl _) _,_,by rw[i],⟨rfl,m⟩,λ_=>w⟩
  repeat' first|simp only[go_sem, *]|apply bc<;>intro j|(refine zA.mono (b _) ?_;rintro r h ⟨B,rfl⟩)
def Xz (c:Cat) (l:List Fac):D:=if(yr c l==0)=true then .tuple [.int .i64 (Dk c l:Int), .int .i64 0] else .tuple [.int .i64 0, .int .i64 (yr c l)]
def Dl (i:yu c d) (t:c.Sm) {l:List Fac} (F:zd 12 (nz l) x) (B:l.length<=65536) (o:∀f∈l,f.Ok) (g:Heap):
  zA prog 63 [d,x] g λr h'=>h'=g/\r=Xz c l:=by
 have m:=Lo i t F B o;obtain⟨G,I⟩:=oy (c:=c) (l:=l);have j:=λcs (n:QY c (za c l).1 (za c l).2.1 cs)=>Ll n t ow ow λa z=>Nat.le_trans (tR a z).1 ow;have e:K7 (Vu c (za c l).1 (za c l).2.1)=Dk c l:=rfl;rw[e] at j;obtain⟨ca,cb,ce,cp,rfl,_,_,_,_⟩:=i;refine xU kr λq=> ?_;refine xP λQ y=> ?_;have b:∀h',Ext g h'->Q (Xz c l) h':=λh' A=>y _ _ ⟨A,by unfold Xz;split<;>simp[below,zh],rfl⟩;unfold Xz at b;refine xO mix func63 zHS rfl rfl ?_;simp only[f63,gJ]
 repeat' first|simp only[go_sem, *]|apply bc<;>intro i
 refine(m _).mono ?_;rintro r h ⟨w,cs,rfl,⟨k,cf⟩,n⟩;have u:zQ prog 189 (.ptr h.next 0) (.agg cs) (h.new h.next (.row Xy))=some (h.new h.next (.row cs)):=zf kJ ow rfl k cf;obtain⟨H,J,r1,v⟩:∃H,h.new h.next (.row cs)=H/\H.at' h.next=some (.row cs)/\Ext h H:=⟨_,rfl,zK _ _ _,(Ext.refl h).new (Nat.le_refl _) _⟩;have s:=b H (w.trans v);have C:sJ prog 189 (.ptr h.next 0) H=some (.agg cs):=fU r1 EM (by rw[kJ,k]) ow;have E:zN true 6 cs 0=some (.agg cs):=zB k ow;cases p:(yr c l==0) with
 |false=>
  rw[iq (by rw[p];exact Bool.false_ne_true)] at s
  repeat' first|simp only[go_sem, *]|apply bc<;>intro i
 |true=>
  rw[ip p] at s;have D:=j cs (n (by simpa using p))
  repeat' first|simp only[go_sem, *]|apply bc<;>intro i|(refine zA.mono (D _) ?_;rintro r h ⟨rfl,rfl⟩)
def RF {l:List Fac} (h:yr c l=0):Dk c l<=4096:=by
 unfold yr at h;split at h
 ·rename_i q;rw[h] at q;exact absurd q (by decide)
 ·split at h
  ·exact absurd h (by decide)
  ·rename_i q;simp at q;omega
def yy (p:Fac->Bool):List Fac->Nat->List Nat
 | [],_=>[]
 |f::fs,k=>if p f then k::yy p fs (k+1) else yy p fs (k+1)
theorem tH (p:Fac->Bool):∀ (l m:List Fac) (k:Nat),yy p (l++m) k=yy p l k++yy p m (k+l.length)
 | [],m,k=>by simp[yy]
 |f::l,m,k=>by
  simp only[List.cons_append,yy,tH p l m (k+1),List.length_cons];rw[show k+1+l.length=k+(l.length+1) by omega];split<;>simp
theorem uL (p:Fac->Bool):∀ (l:List Fac) (k:Nat),∀i∈yy p l k,k<=i/\i<k+l.length
 | [],k,i,h=>by simp[yy] at h
 |f::l,k,i,h=>by
  simp only[yy] at h;have a:=uL p l (k+1);split at h
  ·rcases List.mem_cons.1 h with rfl|h
   ·simp
   ·have:=a i h;simp;omega
  ·have:=a i h;simp;omega
def Q0 (p:Fac->Bool) (l:List Fac) (i:Nat):Nat:=(yy p (l.take i) 0).length
def Lq {p:Fac->Bool} {l:List Fac} (h:i<l.length) (a:p l[i]=false):Q0 p l (i+1)=Q0 p l i:=by
 unfold Q0;rw[List.take_succ_eq_append_getElem h,tH];simp[yy,a]
def It {p:Fac->Bool} {l:List Fac} (h:i<l.length) (a:p l[i]=true):Q0 p l (i+1)=Q0 p l i+1/\(yy p l 0)[Q0 p l i]? =some i:=by
 constructor
 ·unfold Q0;rw[List.take_succ_eq_append_getElem h,tH];simp[yy,a]
 ·unfold Q0;have e:l=l.take i++l[i]::l.drop (i+1):=by rw[List.getElem_cons_drop,List.take_append_drop]
  have e2:yy p l 0=yy p (l.take i) 0++yy p (l[i]::l.drop (i+1)) (0+(l.take i).length):=by
   rw[<-tH,<-e]
  rw[e2,List.getElem?_append_right (Nat.le_refl _),Nat.sub_self];have e3:(l.take i).length=i:=by rw[List.length_take];omega
  simp[yy,a,e3]
def Iu {p:Fac->Bool} {l:List Fac} :Q0 p l l.length=(yy p l 0).length:=by
 unfold Q0;rw[List.take_length]
def oO (sc:List D) (kind:Int) (hf:D):D:= .fn (.func 343) [] [.iptr [.iptr sc 0] 0, .iptr [.int .i64 kind] 0, .iptr [hf] 0]
def ka (sc:List D) (kind:Int) {hf:D} (b:∃f a c,hf= .fn f a c) (h:Heap):zA prog 278 [.iptr sc 0, .int .i64 kind,hf] h λr h'=>h'=h/\r=oO sc kind hf:=by
 obtain⟨fr,a,c,rfl⟩:∃f a c,hf= .fn f a c:=b;refine xO mix func278 zBJ rfl rfl ?_;simp only[f278,gJ];simp only[go_sem,oO]
theorem yz (p:Fac->Bool):∀ (l:List Fac) (k:Nat),(yy p l k).length<=l.length
 | [],_=>Nat.le_refl _
 |f::l,k=>by
  simp only[yy];have:=yz p l (k+1);split<;>simp only[List.length_cons]<;>omega
def isF (kind:Int) (q:Fac->Bool) (f:Fac):Bool:=f.kind==kind&&q f
def fIx (kind:Int) (q:Fac->Bool) (fs:List Fac):List Nat:=yy (isF kind q) fs 0
abbrev elI (l:List Nat) (k:Nat):List D:=[.int .i64 ((l.getD k 0:Nat):Int)]
def oz {hf:D} {q:Fac->Bool} (V:sc[4]? =some x) (hx:zd 12 (nz fs) x) (hl:fs.length<=1048576) (U:∀f∈fs,f.Ok) {Y:Nat->(Nat->Prop)->Heap->Prop}
  (y:Yld prog id (fIx N q fs).length (elI (fIx N q fs)) Y λ_ _=>False)
  {S R:Nat->Prop} (hR:∀i,R i->i<h.next/\(¬S i\/∀k S h',Y k S h'->h'.at' i=h.at' i)) (hq:∀f∈fs,∀s:Heap,(∀i,R i->s.at' i=h.at' i)->jG prog hf [.agg f.cells] s λr h3=>h3=s/\r= .bool (q f)) (hY:Y 0 S h):
  zA prog 343 [.yld id, .iptr [.iptr sc 0] 0, .iptr [.int .i64 N] 0, .iptr [hf] 0] h λ_ h'=>∃S',(∀j,S' j->S j\/h.next<=j)/\But S h h'/\Y (fIx N q fs).length S' h':=by
 refine xO mix func343 A7 rfl rfl ?_;simp only[f343,gJ];have P:=t7 hx;simp only[go_sem,zg,V,P];refine yF (λi fr h'=>fr 0= .yld id/\fr 2= .iptr [.int .i64 N] 0/\fr 3= .iptr [hf] 0/\fr 10=x/\fr 11= .int .i64 fs.length/\fr 12= .int .i64 (i:Int)/\∃S',(∀j,S' j->S j\/h.next<=j)/\But S h h'/\Y (Q0 (isF N q) fs i) S' h') fs.length ?_ ?_
 ·simp only[go_sem,true_and,and_true,Int.ofNat_zero];exact⟨S,λj o=> .inl o,But.refl S h,hY⟩
 rintro i fr h' Z ⟨u,v,w,c,d,e,S',z,m,l⟩;simp only[go_sem,u,v,w,c,d,e];by_cases b:i<fs.length
 ·rw[decide_eq_true (show(i:Int)<fs.length by exact_mod_cast b)];have hm:fs[i]∈fs:=List.getElem_mem b;have X:=qd hx b;have hw:zN true 12 fs[i].cells 0=some (.agg fs[i].cells):=zB rfl ow;have E:=Xa (U _ hm);have n:Ext h' (h'.new h'.next (.row fs[i].cells)):=(Ext.refl h').new (Nat.le_refl _) _;have a:But S h (h'.new h'.next (.row fs[i].cells)):=m.trans (n.but S) λi Z=> .inl Z;have B:fs[i].cells[0]? =some (.int .i64 fs[i].kind):=rfl;have H:IntKind.i64.wrap ((i:Int)+1)=((i+1:Nat):Int):=zq (by unfold lim;omega);cases G:(fs[i].kind==N) with
  |false=>
   simp only[go_sem,u,v,w,c,d,e,X,hw,E,B,G,H,true_and];refine⟨b,S',z,a,?_⟩;rw[Lq b (by simp[isF,G])];exact y.ext l n
  |true=>
   simp only[go_sem,u,v,w,c,d,e,X,hw,E,B,G];refine jG.mono (Q:=λr h3=>h3=h'.new h'.next (.row fs[i].cells)/\r= .bool (q fs[i])) ?_ (hq _ hm _ λj o=> ?_)
   rotate_left
   ·obtain⟨h1,s|s⟩:=hR j o
    ·exact a.2 j h1 s
    ·have:=m.1;rw[zH ow,s _ _ _ l]
   rintro r h3 ⟨rfl,rfl⟩;cases C:q fs[i] with
   |false=>
    simp only[go_sem,u,v,w,c,d,e,H,true_and];refine⟨b,S',z,a,?_⟩;rw[Lq b (by simp[isF,C])];exact y.ext l n
   |true=>
    obtain⟨n1,n2⟩:=It (p:=isF N q) b (by simp[isF,G,C]);have T:=(List.getElem?_eq_some_iff.1 n2).1;have M:(fIx N q fs).getD (Q0 (isF N q) fs i) 0=i:=by rw[List.getD_eq_getElem?_getD,fIx,n2];rfl
    have A:=y.go _ S' _ T (y.ext l n);simp only[elI,M] at A;simp only[go_sem,u,v,w,c,d,e];refine A.mono ?_;rintro r h3 ⟨W,I,L,hr⟩;have t:But S h h3:=a.trans L z;have F:∀j,W j->S j\/h.next<=j:=λj o=>by
     rcases I j o with o|o
     ·exact z j o
     ·have h1:=a.1;exact .inr ow
    rcases hr with⟨rfl,J⟩ | ⟨rfl,K⟩
    ·simp only[go_sem,u,v,w,c,d,e,vun,H,true_and];exact⟨b,W,F,t,by rw[n1];exact J⟩
    ·exact K.elim
 ·have O:i=fs.length:=ow;subst O;rw[decide_eq_false ow];simp only[go_sem];rw[Iu] at l;exact⟨S',z,m,l⟩
end Go.V
