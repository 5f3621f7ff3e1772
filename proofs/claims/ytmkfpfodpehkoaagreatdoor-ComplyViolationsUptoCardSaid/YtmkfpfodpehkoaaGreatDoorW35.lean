/- Contracts of functions that the law reaches, part 3. No condition. -/
import Derived.Test.YtmkfpfodpehkoaaGreatDoorW34
set_option linter.all false
set_option maxHeartbeats 8000000
namespace Go.V
open Go.Proofs.Tryz
open Go.Proofs
set_option maxRecDepth 100000
structure Alt where
 ts:List Trm
 d:D
structure Alt.Ok(a:Alt):Prop where
 sl:ye 2 (wW a.ts) a.d
 ne:a.ts≠[]
 len:a.ts.length<=4096
def mkA(ts:List Trm):Alt:=⟨ts,.sl 2 (wW ts) .no⟩
def qJ(l:List Alt):List (List D):=l.map λa=>[a.d]
def ym(l:List Alt):(qJ l).length=l.length:=zI ..
variable{i id n j:Nat}{d x y:D}{f:FuncId}{cap:List D}{g h0 h:Heap}{α:Type}{ts:List Trm}{S:Nat->Prop}{c:Cat}{e:Ex}
def Io{l:List Alt}(h:i<l.length):(qJ l)[i]? =some [l[i].d]:=by simp[qJ,h]
def rE(l:List Alt):∀x∈qJ l,x.length=1:=λx a=>by
 obtain⟨s,_,rfl⟩:=zT.1 a;rfl
def ov(l:List Alt):(qJ l).flatten=l.map Alt.d:=by
 induction l with
 |nil=>rfl
 |cons a l b=>simp only[qJ,qL,yc]at b⊢;rw[b];rfl
def tf{l:List Alt}(a:ye 1 (qJ l) d)(h:Heap):js prog 30 d h=some (.int .i64 l.length):=by rw[uV a underlying30,ym]
def ru{l:List Alt}(a:ye 1 (qJ l) d)(b:i<l.length):yP prog 30 d (.int .i64 (i:Int))=some (.iptr [l[i].d] 0):=qA a uc uT (Io b)
def XG(a:List Trm):sH [(mkA a).d]:=by
 have h:=qg (sz:=2) (xs:=wW a) (λx b=>by
  obtain⟨y,_,rfl⟩:=zT.1 b;exact⟨rfl,by simp[Trm.cells,qZ,below],rfl⟩) .no
 exact⟨rfl,by simp only[qZ];exact⟨h.2,trivial⟩,by simp only[wU];rw[show(mkA a).d=.sl 2 (wW a) .no from rfl,h.1]⟩
def TC{l:List Alt}(n:ye 1 (qJ l) d)(D:l.length<=1048576){p:Alt->Bool}(z:∀s∈l,ye 2 (wW s.ts) s.d/\zB prog f ([]++ [s.d]++cap) g λr h'=>h'=g/\r=.bool (p s)):
  zB prog 97 [d,.fn (.func f) [] cap] g λr h'=>h'=g/\r=.int .i64 (cK p l):=by
 have o:=tf n;refine z5 zJa ?_;simp only[f97,zA]
 repeat' first|simp only[go_sem, *]|apply bc<;>intro m
 refine zV (λi fr h=>fr 1=.fn (.func f) [] cap/\fr 0=d/\fr 6=d/\fr 7=.int .i64 (l.length:Int)/\fr 8=.int .i64 (i:Int)/\h=g/\∀j (b:j<l.length),j<i->p l[j]=false) l.length ow ?_ ?_ ?_
 ·simp only[go_sem,zQ,zS,zF];exact λj b h0=>by omega
 ·rintro i fr h a e1 C ⟨t,q,u,v,w,rfl,b⟩;have B:=ru n a;obtain⟨y,e⟩:=z _ (zG a);obtain⟨k1,k2,k3⟩:=yR y;simp only[yT,z9]at e;cases k:p l[i]with
  |true=>
   have A:=lX a b k;rw[k]at e
   repeat' first|simp only[go_sem, *]|apply bc<;>intro m|refine zB.use e ?_
  |false=>
   have x:=qp (p:=p) a b k;rw[k]at e
   repeat' first|simp only[go_sem, *]|apply bc<;>intro m|refine zB.use e ?_
   exact x
 ·rintro fr h e1 ⟨t,q,u,v,w,rfl,b⟩;have A:=lY (p:=p) λj c=>b j c c;exact au
def gB{l:List Alt}(b:ye 1 (qJ l) d)(e:l.length<=1048576){p:Alt->Bool}(h:∀s∈l,ye 2 (wW s.ts) s.d/\zB prog f ([]++ [s.d]++cap) g λr h'=>h'=g/\r=.bool (p s)):
  zB prog 50 [d,.fn (.func f) [] cap] g λr h'=>h'=g/\r=.bool (l.any p):=by
 have a:=TC b e h;have c:=jE (l:=l) (p:=p);refine z5 zJF ?_;simp only[f50,zA]
 repeat' first|simp only[go_sem, *]|apply bc<;>intro i|refine zB.use a ?_
def dz(d:D)(nid:Nat)(h:Heap)(h1:d.cells= [d])(a:d.notTuple=true)(h3:d.flat=true):yB prog false nid 30 1 [(0,d)] h=some (.sl 1 [[d]] .full,h):=by
 have:=wP (P:=prog) (nid:=nid) (h:=h) (x:=d) uc bi uT rfl rfl ow ow a (by rw[h1];rfl);rw[h1]at this;exact this
def Ax{a b:Alt}(c:a.Ok)(e:b.Ok)(h:g.at' id=some (.row [a.d])):
  zB prog 273 [b.d,.ptr id 0] g λr h'=>h'=g/\r=.bool (tj a.ts b.ts):=by
 have f:=VY c.sl e.sl (by have:=c.len;omega) (by have:=e.len;omega);refine z5 zHh ?_;simp only[f273,zA]
 repeat' first|simp only[go_sem, *]|apply bc<;>intro f|refine zB.use (f _) ?_
open Go.Shelf Go.Proofs Go.Sort
open Go.RowKit (Below)
def Xc [Inhabited α](enc:α->Value)(w:World)(a off m:Nat)(c:Array α)(os:Array Go.Obj):∀b,b≠a->b<w.heap.size->(sortWorld enc w a off m c os).heap[b]? =w.heap[b]? :=λb d f=>by
 show((putRow enc (Go.Sort.ahead w m) a off c).heap++os)[b]? =_;have g:(putRow enc (Go.Sort.ahead w m) a off c).heap.size=w.heap.size:=by simp[putRow,mapBlock,Go.Sort.ahead]
 rw[tm ow];show((Go.Sort.ahead w m).heap.modify a _)[b]? =_;rw[rI,iq (λe=>d e.symm)];rfl
section
variable{P:Program}{f cmp:FuncId}{β:Type}{dd:β->D}{xs:List β}{id:Nat}{pre post:List D}{h:Heap}{cf:β->β->Int}
abbrev VP(dd:β->D)(xs:List β)(M:Imm)(ρ:Ren):= {p:β×Value // p.1∈xs/\rel M ρ (dd p.1) p.2/\(dd p.1).flat=true}
theorem zB.of_sort1(h0:xs≠[])(he:pO P f=true)(a8:∀args w,(callFunc cmp args).run P w=.ok (.enter cmp args) w)
  (O:h.at' id=some (.row (pre++xs.map dd++post))) (hO:SWO (ltOf cf)) (a0:xs.length<4611686018427387904)
  (ad:∀x∈xs,∀y∈xs,∀H,zB P cmp [dd x,dd y] H λr H'=>H'=H/\r=.int .i64 (cf x y))
  (a1:∀(α:Type)[Inhabited α](enc:α->Value),OneCell enc->∀(cf:α->α->Int),SWO (ltOf cf)->∀(g:Nat)(cb:Array Value)(t off cap:Nat)(d:Array α)(w:World),
   (∀args w,(callFunc g args).run P w=.ok (.enter g args) w)->CmpLays1 P g cb enc cf t off d.size w->Go.Sort.Holds enc w t off d->t<w.heap.size->d.size<4611686018427387904->
   Calls P f #[.slice (some ⟨t,off,none⟩) d.size cap,.func (.func g) #[] cb] w λe w'=>e=.returned (.tuple #[])/\∃u n os,PermIn 0 d.size d u/\SortedIn (ltOf cf) 0 d.size u/\w'=sortWorld enc w t off n u os):
  zB P f [.rs id 1 pre.length xs.length,.fn (.func cmp) [] []] h λr h'=>r=.tuple []/\∃ys:List β,ys.Perm xs/\ys.Pairwise (λa b=>¬cf b a<0)/\h'=h.set id (.row (pre++ys.map dd++post)):=by
 refine⟨he,λw0 G M ρ w va L Q au hr=> ?_⟩;simp only[wL]at hr;obtain⟨v,cg,b0,W,v2,ch,rfl,a4,rfl⟩:=hr;simp only[rel,wL]at W a4;obtain⟨_,b4,l,cap,o,hl,rfl,⟨b5,b6⟩,cc,ho⟩:=W;obtain⟨_,fa,fc,rfl,ba,bb⟩:=a4;have ai:fa= #[]:=sr (by simpa using ba);have ak:fc= #[]:=sr (by simpa using bb);subst ai ak;have b1:0<xs.length:=yF.2 h0;have ho:o=pre.length:=by
  rcases ho with hz|ho
  ·omega
  ·exact ho
 subst ho;have a5:va= #[.slice (some ⟨l.blk,pre.length,none⟩) xs.length cap,.func (.func cmp) #[] #[]]:=sr (by simpa using b0);subst a5;obtain⟨l',h1,D,hM,c,e,hw,ca,b7,K⟩:=Q.live id _ O;rw[hl]at h1;cases h1;have ab:l.blk<w.heap.size:=(yE.1 hw).1;have a7:∀i (s:i<xs.length),(pre++xs.map dd++post)[pre.length+i]? =some (dd xs[i]):=λi s=>by
  rw[z8,yf ow,pq,yk (by simpa using s),yK,zE s];rfl
 have F:∀i (s:i<xs.length),∃v,c[pre.length+i]? =some v/\rel M ρ (dd xs[i]) v/\(dd xs[i]).flat=true:=λi s=>by
  obtain⟨h1,v,X,h3⟩:=K _ _ (a7 i s);exact⟨v,X,h3,h1⟩
 let mk:_root_.Fin xs.length->VP dd xs M ρ:=λi=>⟨(xs[i.1],(F i.1 i.2).choose),zG i.2,(F i.1 i.2).choose_spec.2⟩
 letI:Inhabited (VP dd xs M ρ):=⟨mk ⟨0,b1⟩⟩
 let enc:VP dd xs M ρ->Value:=λp=>p.1.2
 have S:OneCell enc:=λp=>ZA p.2.2.1 p.2.2.2
 let d:Array (VP dd xs M ρ):=Array.ofFn mk
 have R:d.size=xs.length:=by simp[d]
 have a9:∀i (s:i<xs.length),d[i]! =mk ⟨i,s⟩:=λi s=>by rw[uJ d i (by rw[R];exact s)];simp[d]
 have ag:d.toList.map (λp=>p.1.1)=xs:=by
  apply oC;intro i;rw[yK,qX];by_cases s:i<xs.length
  ·rw[t8 (by rw[R];exact s),zE s,qo];simp[d,mk]
  ·rw[s8 ow,og ow];rfl
 have a6:SWO (ltOf λp q:VP dd xs M ρ=>cf p.1.1 q.1.1):=⟨λx=>hO.irrefl _,λx y z=>hO.trans _ _ _,λx y z=>hO.ntrans _ _ _⟩;have N:Go.Sort.Holds enc w l.blk pre.length d:=by
  intro j hj;rw[R]at hj;refine⟨?_,by simp[World.frozen?,hw]⟩;rw[a9 _ hj];have W:=(F j hj).choose_spec.1;simp only[World.cell?,hw,rD,zW,yz];exact W
 have U:CmpLays1 P cmp #[] enc (λp q=>cf p.1.1 q.1.1) l.blk pre.length d.size w:=by
  intro m os J b9 x y;have B:=Xc enc w l.blk pre.length m J os;have T:La P (sortWorld enc w l.blk pre.length m J os):=⟨λg Y=>by
   have X:=L.here Q.below Y;unfold Lib.TabIs World.var? at X⊢;rw[Y]at X⊢;simp only[sf]at X⊢;have C:=(L.1 g Y).1;rw[B g (λq=>D (q▸C)) (zy (w0.kept g C) Q.below.size)];exact X,λg Y=>by
   obtain⟨m,hm⟩:=L.max Q.below Y;have C:=(L.2 g Y).1;exact⟨m,(wh (w:=w) (B g (λq=>D (q▸C)) (zy (w0.kept g C) Q.below.size))).trans hm⟩⟩
  refine zB.stays (λH=>(ad x.1.1 x.2.1 y.1.1 y.2.1 H).mono λr H' hq=>hq.2) (λM ρ v W=>by simp only[rel]at W;exact W.1) (M:=M) (ρ:=ρ) (n:=h.next) (λb o v hb=> ?_) T au ?_
  ·have bx:b≠l.blk:=λq=>by subst q;rw[hM o]at hb;cases hb
   rw[<-Q.imm b o v hb];exact wh (w:=w) (B b bx (Q.lt hb))
  ·show wL M ρ _ [_,_];simp only[wL];exact⟨_,_,rfl,x.2.2.1,_,_,rfl,y.2.2.1,rfl⟩
 have A:=a1 (VP dd xs M ρ) enc S (λp q=>cf p.1.1 q.1.1) a6 cmp #[] l.blk pre.length cap d w a8 U N ab (by rw[R];exact a0);rw[R]at A;refine A.mono λe w' hq=> ?_;obtain⟨rfl,u,n,os,k,E,rfl⟩:=hq;rw[<-R]at k;have a3:=PermIn.list k;have b8:u.size=xs.length:=by rw[k.1,R]
 have b3:(u.toList.map λp=>p.1.1).Perm xs:=by
  have q:=a3.map (λp=>p.1.1)
  rwa [ag]at q
 let I:VP dd xs M ρ->Bj:=λp=>⟨(dd p.1.1,p.1.2),p.2.2.2⟩
 have a2:∀J:List (VP dd xs M ρ),(J.map I).map (λq=>q.1.1)=(J.map λp=>p.1.1).map dd:=λJ=>by rw[qm,qm];rfl
 have bs:∀J:List (VP dd xs M ρ),(J.map I).map (λq=>q.1.2)=J.map enc:=λJ=>by rw[qm];rfl
 have V:h.at' id=some (.row (pre++(d.toList.map I).map (λq=>q.1.1)++post)):=by rw[a2,ag];exact O
 have hS:=(Q.ahead n).putRow (α:=Bj) (enc:=λq=>q.1.2) (dd:=λq=>q.1.1) (λq=>q.2) V hl (ys:=u.toList.map I) (a3.map I).length_eq (λq hq=>by
  obtain⟨p,hp,rfl⟩:=zT.1 hq;exact p.2.2.1)
 have Z:=hS.grow os;rw[aM,jh,bs,a2,<-jh,Array.toArray_toList,<-aM]at Z;refine⟨.tuple #[],M,ρ,.tuple [],_,rfl,MLe.refl _,RLe.refl _,Z,au,by simp only[rel,wL];exact⟨#[],rfl,rfl⟩,rfl,u.toList.map (λp=>p.1.1),b3,?_,rfl⟩;rw[kF,ua];intro i j s hj bd;have bk:j<u.size:=by simpa using hj
 have:=E i j (yg _) bd ow;rw[uJ u j bk,uJ u i ow]at this;simpa [ltOf]using this
end
open Go.Proofs Go.Shelf Go.Sort
def aN:QC wm where
 anti x y:=by unfold wm;(repeat' split)<;>omega
 trans x y z h1 h2:=by
  have e:∀a b:Int,wm a b<=0↔a<=b:=λa b=>by unfold wm;(repeat' split)<;>omega
  rw[e]at *;omega
def Yd(x y:Int)(h:wm x y=0):x=y:=by unfold wm at h;(repeat' split at h)<;>omega
theorem Wb:∀a b:List Trm,pC a b=ZB yI a b
 | [],[]=>rfl
 | [],_::_=>rfl
 |_::_,[]=>rfl
 |x::xs,y::ys=>by
  simp only[pC,ZB,Vw,Wb xs ys];by_cases h:yI x y=0<;>simp[h]
def oD(a b:List Trm):ui a b=Vw (wm a.length b.length) (ZB yI a b):=by
 unfold ui Vw;simp only[orL,Wb];split
 ·split
  ·rename_i q;exact q.symm
  ·rfl
 ·rfl
def pF:QC ui:=by
 have:=(aN.key (γ:=List Trm) (λa=>(a.length:Int))).lex sI.list;exact⟨λx y=>by rw[oD,oD];exact this.anti x y,λx y z=>by rw[oD,oD,oD];exact this.trans x y z⟩
def hZ(x y:List Trm)(h:ui x y=0):x=y:=by
 rw[oD,Vw]at h;split at h
 ·exact Vx mO _ _ h
 ·rename_i q;exact absurd h q
def VU(l:List (List Trm)):(qJ (l.map mkA)).flatten=l.map λa=>(mkA a).d:=by rw[ov,qm];rfl
variable{id:Nat}{f:FuncId}{h:Heap}
def Dk{l:List (List Trm)}(h0:l≠[])(u:l.length<=1048576)(a:∀i∈l,i.length<=1048576)(b:g.at' id=some (.row (qJ (l.map mkA)).flatten)):
  zB prog 271 [.rs id 1 0 l.length,.fn (.func 272) [] []] g λr h'=>r=.tuple []/\h'=g.set id (.row (qJ ((srt ui l).map mkA)).flatten):=by
 have:=zB.of_sort1 (P:=prog) (f:=271) (cmp:=272) (dd:=λi=>(mkA i).d) (xs:=l) (id:=id) (pre:=[]) (post:=[]) (h:=g) (cf:=ui) h0 kr (enters_of func272 kr rfl) (by simpa [VU]using b) pF.swo ow
  (λx s y t H=>U5 (ye.mk .no) (ye.mk .no) (a x s) (a y t) H) (λα _ enc h1 cf m g j c off cap d w p o k n e=>Any.slices_SortFunc Tryz.sortAlt enc h1 cf m g j c off cap d w p o k n e)
 refine this.mono λr h' ⟨e1,ys,q,e,e2⟩=>⟨e1,?_⟩;rw[e2,Rb pF hZ q e,VU];simp
def wn(ts:List Trm):List Trm:=cpt yI (srt yI ts)
def oL(out:List (List Trm))(a:List Trm):List (List Trm):=if(out.any λb=>tj a b)=true then out else out++ [a]
def rm(l:List (List Trm)):Nat->List (List Trm)
 |0=>[]
 |n+1=>match l[n]? with
  |none=>rm l n
  |some a=>oL (rm l n) a
def ry(l:List (List Trm)):List (List Trm):=srt ui (l.map wn)
def yO(l:List (List Trm)):List (List Trm):=rm (ry l) (ry l).length
def Na(h:ts≠[]):wn ts≠[]:=λe=>by
 have h1:0<(srt yI ts).length:=by rw[(tF ts).length_eq];exact yF.2 h
 have:=Vg (c:=yI) h1 _ (zD _) h1;rw[show uv yI (srt yI ts) (srt yI ts).length=wn ts from rfl,e]at this
 exact absurd this (uB _)
def gR(a:List Trm):(wn a).length<=a.length:=by
 have:=lD (c:=yI) (l:=srt yI a) (srt yI a).length;rw[(tF a).length_eq]at this;exact(by rw[<-(tF (c:=yI) a).length_eq];exact lD _)
def NX(h:ts≠[])(a:ts.length<=4096):(mkA ts).Ok:=⟨ye.mk .no,h,a⟩
theorem gP{l:List (List Trm)} :∀n,∀x∈rm l n,x∈l
 |0,x,h=>by cases h
 |n+1,x,h=>by
  rw[rm]at h;split at h
  ·exact gP n x h
  ·rename_i a e;unfold oL at h;split at h
   ·exact gP n x h
   ·rcases yD.1 h with h|h
    ·exact gP n x h
    ·cases zY.1 h;exact zh e
theorem XD{l:List (List Trm)} :∀n,(rm l n).length<=n
 |0=>zD _
 |n+1=>by
  have a:=XD (l:=l) n;rw[rm];split
  ·omega
  ·unfold oL;split
   ·omega
   ·rw[zM];simp only[zm,yw];omega
def ZD{l:List (List Trm)}{x:List Trm}(h:x∈yO l):∃y∈l,x=wn y:=by
 have:=lv.1 (gP _ x h);obtain⟨y,a,rfl⟩:=zT.1 this;exact⟨y,a,rfl⟩
theorem YS{l:List Alt}(hd:ye 1 (qJ l) d)(h0:l≠[])(hl:l.length<=1048576)(J:∀a∈l,a.Ok)(g:Heap):
  zB prog 191 [d] g λr h'=>h'=g/\Fin 1 (qJ ((yO (l.map Alt.ts)).map mkA)) r:=by
 refine xU kr λb5=>xS ?_;have b4:=tf hd;refine xP λQ hQ=> ?_;have b7:=Own.start (Ext.refl g) 1;refine z5 zHF ?_;simp only[f191,zA]
 repeat' first|simp only[go_sem, *]|apply bc<;>intro w
 refine zV (λi fr h=>∃s,fr 10=d/\fr 11=.int .i64 (l.length:Int)/\fr 12=.int .i64 (i:Int)/\fr 3=s/\YA g h 1 (qJ (((l.take i).map λa=>wn a.ts).map mkA)) s) l.length ow ?_ ?_ ?_
 ·have X:=YA.start (Ext.refl g) 1;simp only[go_sem,zQ,zS,zF];exact⟨_,rfl,X⟩
 ·rintro i fr h q e1 ew ⟨s,ab,ad,ag,f3,A⟩;have a1:=ru hd q;obtain⟨o1,o2,o3⟩:=J _ (zG q);have b1:(l.take (i+1)).map (λa=>wn a.ts)=(l.take i).map (λa=>wn a.ts)++ [wn l[i].ts]:=by rw[zH q,yX];rfl
  have S:((l.take i).map λa=>wn a.ts).length=i:=by rw[zI,z7];omega
  rw[b1];generalize l[i]=a at *
  generalize(l.take i).map (λa=>wn a.ts)=pre at *
  obtain⟨k1,k2,k3⟩:=yR o1;have a6:=λh=>Ln o1 o2 ow h;have B:=λ(H:Heap) (hr:H.at' h.next=some (.row (wW a.ts).flatten))=>Dn (id:=h.next) o2 ow hr;have ba:srt yI a.ts≠[]:=λe=>o2 (yv.1 (by rw[<-(tF (c:=yI) a.ts).length_eq,e];rfl));have bb:(srt yI a.ts).length=a.ts.length:=(tF a.ts).length_eq;have O:=λ(H:Heap) (hr:H.at' h.next=some (.row (wW (srt yI a.ts)).flatten))=>QI (id:=h.next) ba ow hr;rw[bb]at O;have ca:D.sl 2 (wW (cpt yI (srt yI a.ts))) .no=(mkA (wn a.ts)).d:=rfl
  repeat' first|simp only[go_sem, *]|apply bc<;>intro w|(refine zB.mono (a6 _) ?_;rintro r h ⟨rfl,rfl⟩)
  refine(B _ (yQ _ _ _)).mono ?_;rintro r j ⟨rfl,rfl⟩
  repeat' first|simp only[go_sem, *]|apply bc<;>intro w
  refine(O _ (zi _ _ _)).mono ?_;rintro r j ⟨rfl,rfl⟩;have hE:Ext h (((h.new h.next (.row (wW a.ts).flatten)).set h.next (.row (wW (srt yI a.ts)).flatten)).del h.next):=(((Ext.refl h).new (zD _) _).set (zD _) _).del (zD _);generalize((h.new h.next (.row (wW a.ts).flatten)).set h.next (.row (wW (srt yI a.ts)).flatten)).del h.next=H at *
  have bx:=A.ext hE;obtain⟨d',G,a4,bs,b3⟩:=bx.app (P:=prog) (ys:=qJ [mkA (wn a.ts)]) (tk:=.full) uc p7 uT ow (λcs=>RV underlying108) (rE _) (rE _) (by simp[qJ]) (by rw[ym,zI,S,tt];unfold lim;simp[qJ];omega) (by rw[ym,zI,S];unfold lim;simp[qJ];omega);have U:=dz (mkA (wn a.ts)).d H.next H rfl rfl rfl;have C:qJ [mkA (wn a.ts)]= [[(mkA (wn a.ts)).d]]:=rfl;rw[C]at a4 b3;have m:YA g G 1 (qJ ((pre++ [wn a.ts]).map mkA)) d':=by
   rw[yX]
   have:qJ (pre.map mkA++List.map mkA [wn a.ts])=qJ (pre.map mkA)++qJ [mkA (wn a.ts)]:=by simp[qJ]
   rw[this];exact bs
  repeat' first|simp only[go_sem, *]|apply bc<;>intro w
  exact⟨_,rfl,m⟩
 ·rintro fr h e1 ⟨s,ab,ad,ag,f3,A⟩;rw[zb]at A;have hS:srt ui (l.map λa=>wn a.ts)=ry (l.map Alt.ts):=by rw[ry,qm];rfl
  have a3:(ry (l.map Alt.ts)).length=l.length:=by rw[<-hS,(tF _).length_eq,zI]
  have a8:l.map (λa=>wn a.ts)≠[]:=by simp[h0]
  have F:(l.map λa=>wn a.ts).length=l.length:=zI ..;have v:∀M∈ry (l.map Alt.ts),M≠[]/\M.length<=4096:=λM h=>by
   rw[<-hS]at h;obtain⟨a,ha,rfl⟩:=zT.1 (lv.1 h);exact⟨Na (J a ha).ne,za (gR _) (J a ha).len⟩
  have a7:∀M∈l.map (λa=>wn a.ts),M.length<=1048576:=λM h=>by
   have:=(v M (by rw[<-hS];exact lv.2 h)).2;omega
  obtain⟨Z,w⟩:=A;rcases w with⟨_,e⟩ | ⟨id,rfl,W,hid,R,_⟩
  ·exact absurd (by simpa [qJ]using e) h0
  have C:(qJ ((l.map λa=>wn a.ts).map mkA)).length=l.length:=by rw[ym,zI,F]
  rw[C]at f3;have B:=Dk a8 ow a7 W;have T:yO (l.map Alt.ts)=rm (ry (l.map Alt.ts)) (ry (l.map Alt.ts)).length:=rfl;rw[T]at hQ;rw[F,hS]at B;generalize ry (l.map Alt.ts)=L at *
  have E0:Ext g (h.set id (.row (qJ (L.map mkA)).flatten)):=Z.set hid _;have a2:∀r h',Ext g h'->below g.next (wD r)->Fin 1 (qJ ((rm L L.length).map mkA)) (wD r)->Q r h':=λr h' q1 q2 q3=>hQ r h' ⟨q1,q2,q3⟩
  repeat' first|simp only[go_sem, *]|apply bc<;>intro w|(refine zB.mono B ?_;rintro r h ⟨rfl,rfl⟩)
  have r0:(h.set id (.row (qJ (L.map mkA)).flatten)).at' id=some (.row (qJ (L.map mkA)).flatten):=zi _ _ _;have E:id<(h.set id (.row (qJ (L.map mkA)).flatten)).next:=R;generalize h.set id (.row (qJ (L.map mkA)).flatten)=H at *
  have cc:=λ(h:Heap)=>lz (P:=prog) (t:=30) (sz:=1) (id:=id) (off:=0) (len:=l.length) (h:=h) underlying30
  repeat' first|simp only[go_sem, *]|apply bc<;>intro w
  refine zV (λi fr h=>∃o,fr 28=.rs id 1 0 l.length/\fr 29=.int .i64 (l.length:Int)/\fr 30=.int .i64 (i:Int)/\fr 7=o/\Own H h 1 (qJ ((rm L i).map mkA)) o) l.length ow ?_ ?_ ?_
  ·have X:=Own.start (Ext.refl H) 1;simp only[go_sem,zQ,zS,zF];exact⟨_,rfl,X⟩
  ·rintro i fr j q ec ew ⟨o,ai,ak,a0,f7,A⟩;have u:i<L.length:=ow;have a1:=wE (P:=prog) (sz:=1) (id:=id) uc uT (k:=.i64) q;have b0:j.at' id=some (.row (qJ (L.map mkA)).flatten):=by rw[A.1.2 _ E];exact r0
   have b8:(qJ (L.map mkA)).flatten[i*1]? =some (mkA L[i]).d:=by rw[VU,uz,yK,zE u];rfl
   obtain⟨m1,m2⟩:=v L[i] (zG u);have a9:rm L (i+1)=oL (rm L i) L[i]:=by rw[rm,zE u]
   have Y:∀x∈rm L i,x≠[]/\x.length<=4096:=λx Z=>v x (gP i x Z);have F:=XD (l:=L) i;rw[a9];generalize L[i]=a at *
   generalize rm L i=out at *
   have cb:j.next<(j.new j.next (.row [(mkA a).d])).next:=by rw[yA];omega
   have V:(j.new j.next (.row [(mkA a).d])).at' j.next=some (.row [(mkA a).d]):=yQ _ _ _;have b6:qP prog 108 (.ptr j.next 0) (mkA a).d (j.new j.next (.row [.nilsl]))=some (j.new j.next (.row [(mkA a).d])):=by
    rw[qO (yQ _ _ _) uT (by simp) rfl rfl,dy];rfl
   have I:=A.ext ((Ext.refl j).new (zD _) (.row [(mkA a).d]));have n:=gB (l:=out.map mkA) (d:=o) I.isSl (by rw[zI];omega) (f:=273) (cap:=[.ptr j.next 0]) (p:=λb=>tj a b.ts) (g:=j.new j.next (.row [(mkA a).d])) (λs X=>by
    obtain⟨y,hy,rfl⟩:=zT.1 X;obtain⟨n1,n2⟩:=Y y hy;exact⟨(NX n1 n2).sl,Ax (NX m1 m2) (NX n1 n2) V⟩)
   have N:(out.map mkA).any (λb=>tj a b.ts)=out.any λb=>tj a b:=by rw[ah];rfl
   rw[N]at n;have a5:(mkA a).d.cells= [(mkA a).d]/\(mkA a).d.notTuple=true:=⟨rfl,rfl⟩;obtain⟨k1,k2⟩:=a5;cases hb:(out.any λb=>tj a b)with
   |true=>
    have K:oL out a=out:=ip hb;rw[K];rw[hb]at n;generalize j.new j.next (.row [(mkA a).d])=h3 at *
    repeat' first|simp only[go_sem, *]|apply bc<;>intro w|refine zB.use n ?_
    exact⟨_,rfl,I⟩
   |false=>
    have K:oL out a=out++ [a]:=iq (by rw[hb];exact zf);rw[K];rw[hb]at n;have U:=λnid h=>dz (mkA a).d nid h rfl rfl rfl;have b9:kW prog 108 (.ptr j.next 0) (j.new j.next (.row [(mkA a).d]))=some (mkA a).d:=by
     simp only[go_sem,V]
    generalize j.new j.next (.row [(mkA a).d])=h3 at *
    repeat' first|simp only[go_sem, *]|apply bc<;>intro w|refine zB.use n ?_
    refine I.appH (ys:=qJ [mkA a]) uc p7 uT ow (rE _) (by simp[qJ]) (by rw[ym,zI,tt];unfold lim;simp[qJ];omega) (by rw[ym,zI];unfold lim;simp[qJ];omega) λd' h' bd=> ?_;have bk:Own H h' 1 (qJ ((out++ [a]).map mkA)) d':=by
     rw[yX]
     have:qJ (out.map mkA++List.map mkA [a])=qJ (out.map mkA)++qJ [mkA a]:=by simp[qJ]
     rw[this];exact bd
    repeat' first|simp only[go_sem, *]|apply bc<;>intro w
    exact⟨_,rfl,bk⟩
  ·rintro fr j ec ⟨o,ai,ak,a0,f7,A⟩;have m:=A.2.1.fin (λx Z=>by
    obtain⟨y,hy,rfl⟩:=zT.1 Z;obtain⟨z,_,rfl⟩:=zT.1 hy;exact XG z)
   have hq:=a2 o j (E0.trans A.1) (qw (yg _) _ m.1) (by rw[a3];exact m.2);exact au
noncomputable def Dv:Cfg:=⟨λt=>List.contains (α:=Nat) [22] t,λi=>(V1 (α:=List (Nat×Fl)) [] i).getD []⟩
def zJ7(t:Tmp):Dv.mu t=List.contains (α:=Nat) [22] t:=(rfl)
def zKu:JE prog Dv f324=true:=kr
noncomputable def Du:Cfg:=⟨λt=>List.contains (α:=Nat) [33] t,λi=>(V1 (α:=List (Nat×Fl)) [] i).getD []⟩
def Eg(t:Tmp):Du.mu t=List.contains (α:=Nat) [33] t:=(rfl)
def zKt:JE prog Du f277=true:=kr
def DO(h0:0<n)(k:n<=1048576)(h:Heap):
  zB prog 324 [.nilsl,.int .i64 n] h λr h'=>∃xs:List D,xs.length=n*2/\r=.rs h.next 2 0 0/\h'=h.new h.next (.row xs):=by
 have e1:decide ((n:Int)<0)=false:=zO ow;have e2:IntKind.i64.wrap (0-0)=0:=rfl;have e3:IntKind.i64.wrap ((n:Int)-0)=n:=by rw[qE ow ow];omega
 have c:decide ((n:Int)>0)=true:=zN ow;have d:wi prog 108 .nilsl none (some (.int .i64 0)) none h=some .nilsl:=by
  simp[wi,cN,mj,uO,uo,to,Zo,Xy]
 have e:np prog true h.next 108 3 .nilsl (.int .i64 n) h=some (.rs h.next 2 0 n,h.new h.next (.row (nz n [.str [],.str []]))):=by
  have j:n*32<=lim:=by unfold lim;omega
  have a:n<=lim:=by unfold lim;omega
  simp only[np,underlying3,uO,so,uo,fE,rY,D.notTuple,D.cells];rw[ip (by simp[j,a,h0]),ng underlying112]
 have f:wi prog 108 (.rs h.next 2 0 n) none (some (.int .i64 0)) none (h.new h.next (.row (nz n [.str [],.str []])))=some (.rs h.next 2 0 0):=
  nB (n:=0) cN uO uo ow
 have i:∀h:Heap,js prog 108 .nilsl h=some (.int .i64 0):=λh=>uV (sz:=2) ye.nil underlying108;refine xO mix func324 zKu rfl rfl ?_;simp only[f324,zA];simp only[go_sem,zJ7,e1,e2,e3,c,HM underlying108,i,d,e,f,Option.map_none,qo,yw,Int.natCast_zero,zF];refine⟨nz n [.str [],.str []],?_,rfl⟩
 have:∀m,(nz m [D.str [],D.str []]).length=m*2:=λm=>by
  induction m with
  |zero=>rfl
  |succ m b=>
   change (List.replicate m [D.str [],D.str []]).flatten.length=_ at b;change (List.replicate (m+1) [D.str [],D.str []]).flatten.length=_;rw[wJ,yc,zM,b];simp;omega
 exact this n
def Aa(h0 h:Heap)(l:List Trm)(d:D):Prop:=Ext h0 h/\∃id xs,d=.rs id 2 0 l.length/\h.at' id=some (.row xs)/\h0.next<=id/\id<h.next/\l.length*2<=xs.length/\xs.take (l.length*2)=(wW l).flatten
def J2(l:List Trm):(wW l).flatten.length=l.length*2:=by rw[tE (p5 l),uU]
def HN{l c:List Trm}{d g:D}(v:Aa h0 h l d)(n:ye 2 (wW c) g)(E:l.length<=1048576)(z:c.length<=1048576):
  ∃r h',qh prog true h.next 108 d g (sY d g h)=some (r,h')/\Aa h0 h' (l++c) r:=by
 obtain⟨k,id,xs,rfl,hid,w,B,A,q⟩:=v;have u:(l.length+c.length)*32<=lim:=by unfold lim;omega
 have m:l.length+c.length<=lim:=by unfold lim;omega
 have C:∀a:Heap,LF 2 g a=some (wW c).flatten:=λa=>by
  rcases n with⟨rfl,p⟩ | ⟨tk,rfl⟩
  ·have:c= []:=qU.1 p;subst this;rfl
  ·simp only[LF,qG]
 have f:(xs.take (l.length*2)).length=l.length*2:=by rw[z7];omega
 have b:=J2 c;have key:∀a:Heap,a.at' id=some (.row (xs.take (l.length*2)))->qh prog true h.next 108 (.rs id 2 0 l.length) g a=some (.rs h.next 2 0 (l.length+c.length),(a.del id).new h.next (.row (xs.take (l.length*2)++(wW c).flatten))):=λa e=>by
  simp only[qh,uO,Us,uo,qG,C,b,ur _ (show 0<2 by omega),th,fE,yL];rw[ip (by simp[u,m]),e];simp only[];rw[ip (by rw[f])]
 obtain⟨a,e1,e2,e3,t⟩:∃a,sY (.rs id 2 0 l.length) g h=a/\a.next=h.next/\(∀j,j≠id->a.at' j=h.at' j)/\a.at' id=some (.row (xs.take (l.length*2))):=by
  by_cases s:l.length*2<xs.length
  ·refine⟨h.set id (.row (xs.take (l.length*2))),?_,rfl,λj y=>by simp[Heap.set,y],zi _ _ _⟩;rcases n with⟨rfl,p⟩ | ⟨tk,rfl⟩ <;>simp[sY,hid,s]
  ·have q:xs.take (l.length*2)=xs:=yj ow;refine⟨h,?_,rfl,λ_ _=>rfl,by rw[q];exact hid⟩;rcases n with⟨rfl,p⟩ | ⟨tk,rfl⟩ <;>simp[sY,hid,s]
 have o:Ext h0 a:=⟨by rw[e2];exact k.1,λi x=>by rw[e3 i ow];exact k.2 i x⟩;rw[e1,key a t];refine⟨_,_,rfl,(o.del w).new k.1 _,h.next,_,by rw[zM],yQ _ _ _,k.1,?_,?_,?_⟩
 ·have:(a.del id).next=a.next:=rfl;simp only[Heap.new,this,e2];omega
 ·rw[zM,zM,f,b];omega
 ·rw[q,Hc,yj (by rw[zM,zM,J2,b];omega)]
theorem Lo{a b:Alt}(Y:a.Ok)(Z:b.Ok)(g:Heap):
  zB prog 277 [.sl 1 [[a.d],[b.d]] .full] g λr h'=>h'=g/\r=(mkA (a.ts++b.ts)).d:=by
 obtain⟨P,Q,a3⟩:=Y;obtain⟨R,b2,b3⟩:=Z;have ai:0<a.ts.length:=yF.2 Q;refine xU kr λag=> ?_
 suffices hh:zB prog 277 [.sl 1 [[a.d],[b.d]] .full] g λr h'=>Aa g h' (a.ts++b.ts) r by
  refine zB.freezeD (hh.mono ?_);rintro r h' ⟨X,id,xs,rfl,hid,hg,q,ab,ht⟩;refine⟨id,xs,hid,X.del hg,?_⟩;rw[aB (xs:=wW (a.ts++b.ts)) (rest:=xs.drop ((a.ts++b.ts).length*2)) (p5 _) (uU _) (by rw[<-ht,yp])];exact⟨It _ _,rfl⟩
 obtain⟨M,o,p,u⟩:∃M:Nat->Nat,M 0=0/\M 1=a.ts.length/\M 2=a.ts.length+b.ts.length:=⟨λi=>if i=0 then 0 else if i=1 then a.ts.length else a.ts.length+b.ts.length,rfl,rfl,rfl⟩
 obtain⟨L,c,j,m⟩:∃L:Nat->List Trm,L 0= []/\L 1=a.ts/\L 2=a.ts++b.ts:=⟨λi=>if i=0 then []else if i=1 then a.ts else a.ts++b.ts,rfl,rfl,rfl⟩
 obtain⟨k,e,f⟩:∃k:Nat->Alt,k 0=a/\k 1=b:=⟨λi=>if i=0 then a else b,rfl,rfl⟩
 have ad:∀h:Heap,js prog 30 (.sl 1 [[a.d],[b.d]] .full) h=some (.int .i64 2):=λh=>uV (ye.mk .full) underlying30;have A:∀i:Nat,i<2->yP prog 30 (.sl 1 [[a.d],[b.d]] .full) (.int .i64 (i:Int))=some (.iptr [(k i).d] 0)/\ye 2 (wW (k i).ts) (k i).d/\M (i+1)=M i+(k i).ts.length/\L (i+1)=L i++(k i).ts/\(L i).length<=8192/\(k i).ts.length<=8192/\M i<=8192:=λi hi=>by
  rcases i with _|_|i
  ·refine⟨qA (ye.mk .full) uc uT (by rw[e];rfl),by rw[e];exact P,by rw[o,e,p];omega,by rw[c,j,e];rfl,by rw[c];simp,by rw[e];omega,by omega⟩
  ·refine⟨qA (ye.mk .full) uc uT (by rw[f];rfl),by rw[f];exact R,by rw[p,f,u],by rw[j,m,f],by rw[j];omega,by rw[f];omega,by show M 1<=8192;omega⟩
  ·omega
 clear e f;refine xO mix func277 zKt rfl rfl ?_;simp only[f277,zA]
 repeat' first|simp only[go_sem,Eg, *]|apply bc<;>intro w
 refine zV (λi fr h=>fr 0=.sl 1 [[a.d],[b.d]] .full/\fr 9=.sl 1 [[a.d],[b.d]] .full/\fr 10=.int .i64 2/\fr 11=.int .i64 (i:Int)/\fr 3=.int .i64 ((M i:Nat):Int)/\h=g) 2 ow ?_ ?_ ?_
 ·simp only[go_sem,zQ,zS,zF,Eg,o]
 ·rintro i fr h q e1 S ⟨T,V,E,s,U,rfl⟩;obtain⟨x1,B,C,D,x5,x6,x7⟩:=A i q;have N:=wT B;have hw:IntKind.i64.wrap (((M i:Nat):Int)+(((k i).ts.length:Nat):Int))=((M (i+1):Nat):Int):=by rw[C,qE ow ow];omega
  have O:decide (((M (i+1):Nat):Int)<0)=false:=zO ow;have e2:decide ((i:Int)<2)=true:=e1;clear C D A o p u
  repeat' first|simp only[go_sem,Eg, *]|apply bc<;>intro w
 ·rintro fr h e1 ⟨T,V,E,s,U,rfl⟩;have e2:decide ((((2:Nat):Int))<2)=false:=rfl;have z:=DO (n:=M 2) ow ow h;have J:fr 11=.int .i64 2:=s;clear e1 s o p u
  repeat' first|simp only[go_sem,Eg, *]|apply bc<;>intro w
  refine z.mono ?_;rintro r W ⟨xs,ak,rfl,rfl⟩;have y:Aa h (h.new h.next (.row xs)) (L 0) (.rs h.next 2 0 0):=⟨(Ext.refl h).new (zD _) _,h.next,xs,by rw[c];rfl,yQ _ _ _,zD _,by rw[yA];omega,by rw[c];simp,by rw[c];rfl⟩;generalize h.new h.next (.row xs)=W at *
  clear z
  repeat' first|simp only[go_sem,Eg, *]|apply bc<;>intro w
  refine zV (λi fr I=>fr 25=.sl 1 [[a.d],[b.d]] .full/\fr 26=.int .i64 2/\fr 27=.int .i64 (i:Int)/\Aa h I (L i) (fr 6)) 2 ow ?_ ?_ ?_
  ·simp only[go_sem,zQ,zS,zF,Eg];exact y
  ·rintro i l I q e1 S ⟨F,G,t,v⟩;obtain⟨d,H⟩:∃x,l 6=x:=⟨_,rfl⟩;rw[H]at v;obtain⟨x1,B,C,D,x5,x6,x7⟩:=A i q;obtain⟨d',h5,k1,k2⟩:=HN v B ow ow;rw[<-D]at k2;have e2:decide ((i:Int)<2)=true:=e1;obtain⟨q1,q2,q3⟩:=yR B;clear C D A c j m v y
   repeat' first|simp only[go_sem,Eg, *]|apply bc<;>intro w
  ·rintro l I e1 ⟨F,G,t,v⟩;have e2:decide ((((2:Nat):Int))<2)=false:=rfl;have K:l 27=.int .i64 2:=t;rw[m]at v;obtain⟨d,H⟩:∃x,l 6=x:=⟨_,rfl⟩;rw[H]at v;clear e1 t A c j m
   repeat' first|simp only[go_sem,Eg, *]|apply bc<;>intro w
def gS(a b:List Alt)(k:Nat):List Trm:=(a.getD (k/b.length) (mkA [])).ts++(b.getD (k%b.length) (mkA [])).ts
def gT(a b:List Alt):List (List Trm):=(List.range (a.length*b.length)).map (gS a b)
def JN{a b:List Alt}(d:i<a.length)(c:j<b.length):gS a b (i*b.length+j)=a[i].ts++b[j].ts:=by
 unfold gS;rw[show(i*b.length+j)/b.length=i by rw[pU,Nat.mul_add_div ow,Nat.div_eq_of_lt c];rfl,show(i*b.length+j)%b.length=j by rw[pU,Nat.mul_add_mod,jk c]];simp[d,c]
def Wq(a b:List Alt):(gT a b).length=a.length*b.length:=by simp[gT]
def DX{a b:List Alt}(d:ye 1 (qJ a) x)(c:ye 1 (qJ b) y)(g:Heap):zB prog 193 [x,y] g λr h'=>h'=g/\r=.fn (.func 276) [] [.iptr [x] 0,.iptr [y] 0]:=by
 refine z5 zHH ?_;simp only[f193,zA];rcases d with⟨rfl,_⟩ | ⟨_,rfl⟩
 ·rcases c with⟨rfl,_⟩ | ⟨_,rfl⟩
  ·exact au
  ·exact au
 ·rcases c with⟨rfl,_⟩ | ⟨_,rfl⟩
  ·exact au
  ·exact au
def I9{a b:List Alt}(C:ye 1 (qJ a) x)(D:ye 1 (qJ b) y)(N:∀q∈a,q.Ok)(O:∀q∈b,q.Ok)(a0:a.length<=4096)(a2:b.length<=4096){Y:Nat->(Nat->Prop)->Heap->Prop}(E:Yld prog id (a.length*b.length) (λk=>[(mkA (gS a b k)).d]) Y λ_ _=>False){w:Heap}(hY:Y 0 S w):
  zB prog 276 [.yld id,.iptr [x] 0,.iptr [y] 0] w λ_ h'=>∃S',But S w h'/\Y (a.length*b.length) S' h':=by
 have ai:=tf C;have ak:=tf D;obtain⟨x1,x2,_⟩:=yR C;obtain⟨y1,y2,_⟩:=yR D;refine z5 zHk ?_;simp only[f276,zA]
 repeat' first|simp only[go_sem, *]|apply bc<;>intro Q
 refine zV (λi fr h'=>fr 0=.yld id/\fr 2=.iptr [y] 0/\fr 8=x/\fr 9=.int .i64 (a.length:Int)/\fr 10=.int .i64 (i:Int)/\∃S',(∀j,S' j->S j\/w.next<=j)/\But S w h'/\Y (i*b.length) S' h') a.length ow ?_ ?_ ?_
 ·have H:∃S',(∀j,S' j->S j\/w.next<=j)/\But S w w/\Y (0*b.length) S' w:=⟨S,λj B=>.inl B,But.refl S w,by rw[pV];exact hY⟩;simp only[go_sem,zQ,zS,zF];exact H
 ·rintro i fr h1 m e1 ew ⟨I,J,K,L,z,M⟩;have a1:=ru C m;have u:=N _ (zG m);have A:=λj (B:j<b.length)=>JN m B;generalize a[i]=p at *
  obtain⟨R,p2,_⟩:=yR u.sl
  repeat' first|simp only[go_sem, *]|apply bc<;>intro Q
  refine qx (λj fr h'=>fr 0=.yld id/\fr 2=.iptr [y] 0/\fr 8=x/\fr 9=.int .i64 (a.length:Int)/\fr 10=.int .i64 (i:Int)/\fr 5=p.d/\fr 14=y/\fr 15=.int .i64 (b.length:Int)/\fr 16=.int .i64 (j:Int)/\∃S',(∀j,S' j->S j\/w.next<=j)/\But S w h'/\Y (i*b.length+j) S' h') b.length ?_ ?_
  ·simp only[go_sem,zQ,zS,zF];exact⟨I,J,K,L,z,M⟩
  clear M;rintro j W l B ⟨g0,g2,g8,g9,X,g5,Z,ab,ad,S',f,c,e⟩;by_cases g:j<b.length
  ·have e2:decide ((j:Int)<(b.length:Int))=true:=zN ow;have V:IntKind.i64.wrap ((j:Int)+1)=((j+1:Nat):Int):=qT (by unfold lim;omega);have b1:=ru D g;have v:=O _ (zG g);have o:=A j g;have hk:i*b.length+j<a.length*b.length:=by
    have:i*b.length+b.length<=a.length*b.length:=by rw[<-qf];exact yW _ m
    omega
   have s:=E.go (i*b.length+j) S' l hk e;simp only[o]at s;generalize b[j]=q at *
   obtain⟨T,q2,_⟩:=yR v.sl;have F:=Lo u v l;have ag:∀nid:Nat,yB prog false nid 30 2 [(0,p.d),(1,q.d)] l=some (.sl 1 [[p.d],[q.d]] .full,l):=λnid=>by
    have:=Xn (P:=prog) (nid:=nid) (h:=l) (x:=p.d) (y:=q.d) uc bi uT rfl rfl ow ow p2 (by rw[R];rfl) q2 (by rw[T];rfl);rw[R,T]at this;exact this
   have a3:(mkA (p.ts++q.ts)).d.notTuple=true:=rfl;clear u v A o E C D N O
   repeat' first|simp only[go_sem, *]|apply bc<;>intro Q|(refine zB.mono F ?_;rintro r h ⟨hq,rfl⟩)
   subst hq;refine s.mono ?_;rintro r h3 ⟨U,k1,k2,k3⟩;rcases k3 with⟨rfl,k3⟩ | ⟨rfl,k3⟩
   ·have n:∃S',(∀j,S' j->S j\/w.next<=j)/\But S w h3/\Y (i*b.length+(j+1)) S' h3:=⟨U,λi' G=>by
     rcases k1 i' G with q|q
     ·exact f _ q
     ·exact .inr (by have:=c.1;omega),c.trans k2 f,k3⟩
    clear f c e k1 k2 k3 s;exact au
   ·exact k3.elim
  ·have e2:decide ((j:Int)<(b.length:Int))=false:=zO ow;have t:j=b.length:=ow;have n:∃S',(∀j,S' j->S j\/w.next<=j)/\But S w l/\Y ((i+1)*b.length) S' l:=⟨S',f,c,by rw[qf,<-t];rw[t]at e⊢;exact e⟩;clear f c e E t;exact au
 ·rintro fr l e1 ⟨I,J,K,L,z,S',f,c,e⟩;have n:∃S',But S w l/\Y (a.length*b.length) S' l:=⟨S',c,e⟩;clear f c e E;exact au
def NB(l:List (List Trm)):∀c∈qJ (l.map mkA),sH c:=λc a=>by
 obtain⟨y,b,rfl⟩:=zT.1 a;obtain⟨z,_,rfl⟩:=zT.1 b;exact XG z
theorem U6{a b:List Alt}(hx:ye 1 (qJ a) x)(hy:ye 1 (qJ b) y)(ha:∀q∈a,q.Ok)(hb:∀q∈b,q.Ok)(O:a.length<=256)(R:b.length<=256)(g:Heap):
  zB prog 275 [.nilsl,.fn (.func 276) [] [.iptr [x] 0,.iptr [y] 0]] g λr h'=>h'=g/\Fin 1 (qJ ((gT a b).map mkA)) r:=by
 refine xU kr λab=>xS ?_;refine xP λQ hQ=> ?_;have I:(gT a b).length=a.length*b.length:=Wq a b;have hm:a.length*b.length<=65536:=za (dD O R) ow;obtain⟨n,o⟩:∃n,qJ ((gT a b).map mkA)=n:=⟨_,rfl⟩;have X:n.length=a.length*b.length:=by rw[<-o,ym,zI,I]
 have W:∀k,k<a.length*b.length->n[k]? =some [(mkA (gS a b k)).d]:=λk N=>by
  rw[<-o];simp[qJ,gT,N]
 have V:∀c∈n,sH c:=by rw[<-o];exact NB _
 rw[o]at hQ;refine z5 zHj ?_;simp only[f275,zA];simp only[go_sem, *];simp only[yA];generalize H:LRec.mk _ _ _ _ _ _ _=L;have yl:Yld prog (g.next+1) (a.length*b.length) (λk=>[(mkA (gS a b k)).d]) (Bp g.next 1 L n) (λ_ _=>False):=by
  refine⟨λk S h y=>y.here,λk S h h' y hn N=>y.loc hn N,λS h hz=>hz.elim,λS h h' hz=>hz.elim,λi S h3 hi Z=> ?_⟩;have hc:=W i hi;generalize U:(mkA (gS a b i)).d=m at *
  have T:m.cells= [m]/\m.notTuple=true/\m.flat=true:=by rw[<-U];exact⟨rfl,rfl,rfl⟩
  obtain⟨m1,m2,m3⟩:=T;have v:=λnid h=>dz m nid h m1 m2 m3;obtain⟨g1,t,d,G,u,s⟩:=Z;subst H;refine uN.round (g:=Ft) mix t rfl kr kr kr ?_;simp only[go_sem];refine⟨t,?_⟩;generalize hB:LRec.mk .busy _ _ _ _ _ _=B;generalize f:Heap.set h3 (g.next+1) (.loop B)=h5;have C:h5.at' g.next=some (.row [d]):=by rw[<-f,zx ow];exact G
  have a3:h5.at' (g.next+1)=some (.loop B):=by rw[<-f];simp[Heap.set]
  have a4:h5.next=h3.next:=by rw[<-f,qS]
  have D:rc h5 1 (n.take i) d:=u.loc ow λj l=>by
   have:=u.tok l;rw[<-f,zx (λe=>by subst e;rw[t]at this;cases this.2)]
  simp only[go_sem,C,v];have A:(n.take i).length=i:=by rw[z7];omega
  refine D.app2 uc p7 uT ow (by simp) (by simp) (by rw[A,tt];unfold lim;simp;omega) (by rw[A];unfold lim;simp;omega) ?_;intro F h6 b1 b2 E b4 b5 b6;have c1:h6.at' g.next=some (.row [d]):=by
   rw[E _ ow λz=> ?_]
   ·exact C
   ·have:=(D.tok z).2;rw[C]at this;cases this
  have Y:=qO (P:=prog) (off:=0) c1 Xj (by simp) b5 b6;simp only[go_sem,Y,mw];have c2:(h6.set g.next (.row [F])).at' (g.next+1)=some (.loop B):=by
   rw[zx ow,E _ ow λz=> ?_]
   ·exact a3
   ·have:=(D.tok z).2;rw[a3]at this;cases this
  refine sV c2 ⟨λj=>j=g.next\/j=g.next+1\/pT F j,λj l=> ?_,⟨by simp only[go_sem];omega,λj l J=> ?_⟩,.inl ⟨rfl,by simp only[go_sem];omega,?_,F,?_,?_,λj=>Iff.rfl⟩⟩
  ·rcases l with rfl|rfl|l
   ·exact .inl ((s _).2 (.inl rfl))
   ·exact .inl ((s _).2 (.inr (.inl rfl)))
   ·exact .inr (by have:=b4 j l;omega)
  ·have n1:j≠g.next:=λe=>J ((s j).2 (.inl e));have n2:j≠g.next+1:=λe=>J ((s j).2 (.inr (.inl e)));rw[zx n2,zx n1,E j ow (λz=>J ((s j).2 (.inr (.inr z)))),<-f,zx n2]
  ·rw[zi,<-hB]
  ·rw[zx ow,zi]
  ·have:n.take (i+1)=n.take i++ [[m]]:=by rw[List.take_add_one,hc];rfl
   rw[this];refine b1.loc (zD _) λj l=> ?_;have:=b4 j l;rw[zx ow,zx ow]
 refine(I9 hx hy ha hb ow ow yl (S:=λi=>i=g.next\/i=g.next+1) (w:=(g.new g.next (.row [.nilsl])).new (g.next+1) (.loop L)) ?_).mono ?_
 ·refine⟨?_,yQ _ _ _,.nilsl,by rw[zz ow,yQ],.inl ⟨rfl,rfl⟩,λj=>by simp[pT]⟩;rw[qW _ (by rw[yA];exact zD _)];omega
 rintro r h2 ⟨S',M,K⟩;obtain⟨g1,t,d,G,u,s⟩:=K;rw[<-X,zb]at u;refine⟨L,t,?_,?_⟩
 ·rw[<-H];intro e;cases e
 have hp:L.pending=none:=by rw[<-H]
 rw[hp,nw];have k1:(h2.del (g.next+1)).at' g.next=some (.row [d]):=by rw[uK ow];exact G
 have p:=u.fin V;have hq:=hQ d (h2.del (g.next+1)) ⟨Ext.del (Ext.of_but (((Ext.refl g).new (zD _) _).new ow _) M λj l=>by rcases l with rfl|rfl<;>omega) ow,qw (yg _) _ p.1,p.2⟩;exact au
def MF{a b:List Alt}(k:ye 1 (qJ a) x)(l:ye 1 (qJ b) y)(f:∀q∈a,q.Ok)(i:∀q∈b,q.Ok)(c:a.length<=256)(d:b.length<=256)(g:Heap):
  zB prog 192 [.fn (.func 276) [] [.iptr [x] 0,.iptr [y] 0]] g λr h'=>h'=g/\Fin 1 (qJ ((gT a b).map mkA)) r:=by
 have h1:=U6 k l f i c d;refine xP λQ e=> ?_;refine z5 zHG ?_;simp only[f192,zA];simp only[go_sem, *];refine(h1 _).mono ?_;rintro r h ⟨j,hf⟩;subst j;have:=e r h ⟨rfl,hf⟩;exact au
def RY(l:List (List Trm)):D:=.tuple (if l.length>64 then [.nilsl,.int .i64 10]else [.sl 1 (qJ (l.map mkA)) .no,.int .i64 0])
def QZ{l:List (List Trm)}(e:l.length<=1048576)(g:Heap):
  zB prog 190 [.sl 1 (qJ (l.map mkA)) .no] g λr h'=>h'=g/\r=RY l:=by
 have a:=tf (l:=l.map mkA) (ye.mk .no);rw[zI]at a;refine xP λQ d=> ?_;have b:=d (RY l) g ⟨rfl,rfl⟩;unfold RY at b;refine z5 zHE ?_;simp only[f190,zA];by_cases c:l.length>64
 ·rw[ip c]at b;have e1:decide ((l.length:Int)>64)=true:=zN ow;exact au
 ·rw[iq c]at b;have e1:decide ((l.length:Int)>64)=false:=zO ow;exact au
def Y5(l:List Lic):∀x∈jJ l,x.length=4:=λx a=>by
 obtain⟨y,_,rfl⟩:=zT.1 a;rfl
def I8(x y:Lic)(g:Heap):zB prog 267 [.agg x.cells,.agg y.cells] g λr h'=>h'=g/\r=.int .i64 (wm x.ver y.ver):=by
 have h1:=YK x.ver y.ver;refine z5 zHc ?_;simp only[f267,zA];simp only[Lic.cells]
 repeat' first|simp only[go_sem, *]|apply bc<;>intro a|refine zB.use (h1 _) ?_
def Dm{l:List Lic}(h0:l≠[])(t:l.length<=1048576)(a:g.at' id=some (.row (jJ l).flatten)):
  zB prog 266 [.rs id 4 0 l.length,.fn (.func 267) [] []] g λr h'=>r=.tuple []/\∃ys:List Lic,ys.Perm l/\h'=g.set id (.row (jJ ys).flatten):=by
 have:=zB.of_sortK (P:=prog) (f:=266) (cmp:=267) (k:=4) (cells:=Lic.cells) (xs:=l) (id:=id) (pre:=[]) (post:=[]) (h:=g) (cf:=λx y=>wm x.ver y.ver) (mid:=[]) (midV:=[]) (λM ρ vs h=>by simpa [wL]using h) h0 ow (λ_ _=>rfl) kr (enters_of func267 kr rfl) (by simpa [jJ]using a) (aN.key Lic.ver).swo ow
  (λx _ y _ H=>I8 x y H) (λα _ enc h1 i cf m g e b off cap d w p o j n c s=>AnyQ.slices_SortFunc Tryz.sortLic 4 (isAgg80) (sizeOf80) enc h1 i cf m g e b off cap d w p o j n c)
 refine this.mono λr h' ⟨e1,ys,q,c,e2⟩=>⟨e1,ys,q,?_⟩;rw[e2];simp[jJ]
def pY(x y:Lic):Bool:=y.fam==x.fam&&decide (y.ver>=x.ver)
def pz(c:Cat)(x:Lic):List (List UInt8):=(c.ls.filter (pY x)).map Lic.name
def cX{k:List UInt8}{x:Lic}(h:sE c k=some x):x∈c.ls:=by
 unfold sE at h;split at h
 ·cases h
 ·split at h
  ·exact zh h
  ·cases h
def Tv{x:Lic}(h:x∈c.ls):c.ls.filter (pY x)≠[]:=λe=>by
 have:x∈c.ls.filter (pY x):=pn.2 ⟨h,by simp[pY]⟩;rw[e]at this;cases this
def C0(x:Lic)(nid:Nat)(h:Heap):yB prog false nid 22 1 [(0,.agg [.str x.name,.str x.fam,.int .i64 x.ver,.str x.text])] h=some (.sl 4 [x.cells] .full,h):=
 wP (P:=prog) (x:=.agg [.str x.name,.str x.fam,.int .i64 x.ver,.str x.text]) cV Ur bT rfl rfl ow ow rfl rfl
theorem DT(n:uM c d)(hs:c.Sm){k:List UInt8}{x:Lic}(hf:sE c k=some x)(g:Heap):
  zB prog 189 [d,.str k] g λr h'=>h'=g/\∃ns,ns.Perm (pz c x)/\r=.tuple [.sl 1 (uH ns) .no,.int .i64 0]:=by
 have F:=Lr n hs k;have S:oy c k=.tuple [.agg [.str x.name,.str x.fam,.int .i64 x.ver,.str x.text],.bool true]:=by unfold oy;rw[hf]
 rw[S]at F;clear S;refine xU kr λba=>xS ?_;refine xP λQ hQ=> ?_;have ab:=cX hf;have s1:=hs.ls.1;obtain⟨a,b,e,p,rfl,ha,hb,he,hp⟩:=n;have A:=pK ha;have Y:=lM x;obtain⟨G0,N,r0,E0,n0⟩:∃G,g.new g.next (.row [.str x.name,.str x.fam,.int .i64 x.ver,.str x.text])=G/\G.at' g.next=some (.row [.str x.name,.str x.fam,.int .i64 x.ver,.str x.text])/\Ext g G/\g.next<G.next:=⟨_,rfl,yQ _ _ _,(Ext.refl g).new (zD _) _,by rw[yA];omega⟩;refine z5 zHD ?_;simp only[f189,zA]
 repeat' first|simp only[go_sem, *]|apply bc<;>intro n|(refine zB.mono (F _) ?_;rintro r h ⟨hq,rfl⟩)
 clear Y F hb he hp;refine zV (λi fr h=>∃s,fr 6=.ptr g.next 0/\fr 23=a/\fr 24=.int .i64 (c.ls.length:Int)/\fr 25=.int .i64 (i:Int)/\fr 8=s/\YA G0 h 4 (jJ ((c.ls.take i).filter (pY x))) s) c.ls.length ow ?_ ?_ ?_
 ·have a7:=YA.start (Ext.refl G0) 4;simp only[go_sem,zQ,zS,zF];exact⟨_,rfl,a7⟩
 ·rintro i fr l z ec ew ⟨s,f6,ag,ai,ak,f8,j⟩;have a1:=pu ha z;have w:(c.ls.take (i+1)).filter (pY x)=(c.ls.take i).filter (pY x)++ [c.ls[i]].filter (pY x):=by rw[zH z,rC]
  have I:((c.ls.take i).filter (pY x)).length<=i:=za (qM _ _) (by rw[z7];omega);rw[w];clear w;generalize c.ls[i]=y at *
  generalize(c.ls.take i).filter (pY x)=pre at *
  have a8:=lM y l l.next;have r1:(l.new l.next (.row [.str y.name,.str y.fam,.int .i64 y.ver,.str y.text])).at' g.next=some (.row [.str x.name,.str x.fam,.int .i64 x.ver,.str x.text]):=by
   rw[zz (by have:=j.1.1;omega),j.1.2 _ n0];exact r0
  have r2:(l.new l.next (.row [.str y.name,.str y.fam,.int .i64 y.ver,.str y.text])).at' l.next=some (.row [.str y.name,.str y.fam,.int .i64 y.ver,.str y.text]):=yQ _ _ _;have m:=j.ext ((Ext.refl l).new (zD _) (.row [.str y.name,.str y.fam,.int .i64 y.ver,.str y.text]));simp only[Lic.cells]at a1;have W:=C0 y;generalize l.new l.next (.row [.str y.name,.str y.fam,.int .i64 y.ver,.str y.text])=H at *
  obtain⟨d',G,E,v,K⟩:=m.app (P:=prog) (ys:=jJ [y]) (tk:=.full) cV Bh bT ow (λcs=>ng underlying80) (Y5 _) (Y5 _) (by simp[jJ]) (by rw[mS,Ll];unfold lim;simp[jJ];omega) (by rw[mS];unfold lim;simp[jJ];omega);have R:jJ [y]= [y.cells]:=rfl;rw[R]at E K v;have U:jJ (pre++ [y])=jJ pre++ [y.cells]:=by simp[jJ]
  rw[<-U]at v;clear j U R hQ A ha E0 N r0;cases q1:(y.fam==x.fam)with
  |false=>
   have f:pre++ [y].filter (pY x)=pre:=by simp[pY,q1]
   rw[f];clear f E K v
   repeat' first|simp only[go_sem, *]|apply bc<;>intro n
   exact⟨_,rfl,m⟩
  |true=>
   cases q2:decide (y.ver>=x.ver)with
   |false=>
    have f:pre++ [y].filter (pY x)=pre:=by simp only[sd,pY,q1,q2];simp
    rw[f];clear f E K v
    repeat' first|simp only[go_sem, *]|apply bc<;>intro n
    exact⟨_,rfl,m⟩
   |true=>
    have f:pre++ [y].filter (pY x)=pre++ [y]:=by simp only[sd,pY,q1,q2];simp
    rw[f];clear f m
    repeat' first|simp only[go_sem, *]|apply bc<;>intro n
    exact⟨_,rfl,v⟩
 ·rintro fr l ec ⟨s,f6,ag,ai,ak,f8,j⟩;rw[zb]at j;have J:=Tv ab;have a4:(c.ls.filter (pY x)).length<=1048576:=za (qM _ _) s1;have hS:pz c x=(c.ls.filter (pY x)).map Lic.name:=rfl;rw[hS]at hQ;clear hS;generalize c.ls.filter (pY x)=L at *
  obtain⟨hx,n⟩:=j;rcases n with⟨_,e⟩ | ⟨id,rfl,C,hid,T,_⟩
  ·exact absurd (by simpa [jJ]using e) J
  rw[mS]at f8;have X:=Dm J a4 C;have O:∀(ys:List Lic) r h',ys.Perm L->Ext g h'->below g.next (wD r)->Fin 1 (uH (ys.map Lic.name)) (wD r)->Q (.tuple [r,.int .i64 0]) h':=λys r h' q0 q1 q2 q3=>by
   refine hQ _ _ ⟨q1,?_,?_⟩
   ·simp only[wD,wU,below,qZ];exact⟨q2,trivial,trivial⟩
   ·refine⟨ys.map Lic.name,q0.map _,?_⟩;rcases q3 with⟨_,e⟩ |e
    ·have:ys= []:=by simpa [uH]using e
     subst this;exact absurd (cL.1 q0) J
    ·simp only[wD,wU,e]
  clear hQ ab A ha;have Z:g.next<=id:=za E0.1 hid
  repeat' first|simp only[go_sem, *]|apply bc<;>intro n
  refine X.mono ?_;rintro r h3 ⟨rfl,ys,hp,rfl⟩;have a9:=hp.length_eq;have r1:(l.set id (.row (jJ ys).flatten)).at' id=some (.row (jJ ys).flatten):=zi _ _ _;have M:Ext g (l.set id (.row (jJ ys).flatten)):=(E0.trans hx).set Z _;have u:id<(l.set id (.row (jJ ys).flatten)).next:=T;generalize l.set id (.row (jJ ys).flatten)=H at *
  have bb:=λ(h:Heap)=>lz (P:=prog) (t:=22) (sz:=4) (id:=id) (off:=0) (len:=L.length) (h:=h) underlying22;have D:=λr h'=>O ys r h' hp;clear O X C hx E0 N r0
  repeat' first|simp only[go_sem, *]|apply bc<;>intro n
  refine zV (λi fr h=>∃o,fr 48=.rs id 4 0 L.length/\fr 49=.int .i64 (L.length:Int)/\fr 50=.int .i64 (i:Int)/\fr 11=o/\Own H h 1 (uH ((ys.take i).map Lic.name)) o) L.length ow ?_ ?_ ?_
  ·have hs:=Own.start (Ext.refl H) 1;simp only[go_sem,zQ,zS,zF];exact⟨_,rfl,hs⟩
  ·rintro i fr h3 z ec ew ⟨o,a0,a2,a3,ad,j⟩;have B:i<ys.length:=ow;have a1:=wE (P:=prog) (sz:=4) (id:=id) cV bT (k:=.i64) z;have a6:h3.at' id=some (.row (jJ ys).flatten):=by rw[j.1.2 _ u];exact r1
   have p1:=mB (Y5 ys) ow (NO B);have w:(ys.take (i+1)).map Lic.name=(ys.take i).map Lic.name++ [ys[i].name]:=by rw[zH B,yX];rfl
   have I:((ys.take i).map Lic.name).length=i:=by rw[zI,z7];omega
   rw[w];clear w;generalize ys[i]=y at *
   generalize(ys.take i).map Lic.name=pre at *
   simp only[Lic.cells]at p1;have a8:=lM y h3 h3.next;have m:=j.ext ((Ext.refl h3).new (zD _) (.row [.str y.name,.str y.fam,.int .i64 y.ver,.str y.text]));have r2:(h3.new h3.next (.row [.str y.name,.str y.fam,.int .i64 y.ver,.str y.text])).at' h3.next=some (.row [.str y.name,.str y.fam,.int .i64 y.ver,.str y.text]):=yQ _ _ _;have W:=jN y.name;generalize h3.new h3.next (.row [.str y.name,.str y.fam,.int .i64 y.ver,.str y.text])=h4 at *
   clear D j r1 M u
   repeat' first|simp only[go_sem, *]|apply bc<;>intro n
   refine m.appH (ys:=uH [y.name]) t5 VN md ow UX (by simp[uH]) (by rw[wK,kw,I];unfold lim;simp[uH];omega) (by rw[wK,I];unfold lim;simp[uH];omega) λd' h' V=> ?_;have a5:Own H h' 1 (uH (pre++ [y.name])) d':=by
    have:uH (pre++ [y.name])=uH pre++uH [y.name]:=by simp[uH]
    rw[this];exact V
   clear m V
   repeat' first|simp only[go_sem, *]|apply bc<;>intro n
   exact⟨_,rfl,a5⟩
  ·rintro fr h3 ec ⟨o,a0,a2,a3,ad,j⟩;rw[<-a9,zb]at j;have q:=j.2.1.fin sw;have hq:=D o h3 (M.trans j.1) (qw (yg _) _ q.1) q.2;clear D q j;exact au
def szd(l:List (List Trm)):Option (List (List Trm)):=if l.length>64 then none else some l
def pZ(a b:List (List Trm)):List (List Trm):=gT (a.map mkA) (b.map mkA)
mutual
def rB(c:Cat):Ex->Option (List (List Trm))
 |.mk k n x l _=>if(k==0)=true then some [[⟨n,x⟩]]else if(k==1)=true then(match sE c n with
   |none=>none
   |some y=>szd (yO ((pz c y).map λs=>[⟨s,[]⟩])))
  else match oK c k l true []with
   |none=>none
   |some out=>szd (yO out)
def oK(c:Cat)(k:Int):List Ex->Bool->List (List Trm)->Option (List (List Trm))
 | [],_,out=>some out
 |e::es,first,out=>match rB c e with
  |none=>none
  |some l=>if(k==3)=true then oK c k es false (out++l)else if first=true then oK c k es false l else match szd (yO (pZ out l))with
   |none=>none
   |some o=>oK c k es false o
end
def Ex.Fit(c:Cat)(e:Ex):Prop:=∀x∈e.pre,x.err=0/\Xl c x=0
theorem Nf:∀{l:List Ex}{e x:Ex},e∈l->x∈e.pre->x∈ju l
 |a::l,e,x,h,b=>by
  simp only[ju];rcases zt.1 h with rfl|h
  ·exact qV _ b
  ·exact qn _ (Nf h b)
def Ex.Fit.kid{e k:Ex}(h:e.Fit c)(a:k∈e.kids):k.Fit c:=λx b=>by
 obtain⟨g,n,f,l,d⟩:=e;exact h x (by simp only[Ex.pre];exact qI _ (Nf a b))
def Ex.Fit.self(h:e.Fit c):e.err=0/\Xl c e=0:=by
 obtain⟨b,n,a,l,d⟩:=e;exact h _ (by simp only[Ex.pre];exact mv)
theorem jH{f:Nat->Int} :∀{n:Nat},ml f n=0->∀i,i<n->f i=0
 |n+1,h,i,a=>by
  simp only[ml]at h;split at h
  ·rename_i q;rcases zo.1 a with g|rfl
   ·exact jH (by simpa using q) i g
   ·exact h
  ·rename_i q;exact absurd (by simpa using h) q
def Tb(h:tT c e=0):qz c=0/\e.size<=64/\e.Fit c:=by
 unfold tT at h;split at h
 ·exact absurd h (by decide)
 rename_i j;split at h
 ·rename_i q;rw[h]at q;exact absurd q (by decide)
 rename_i k;have a:pP e=0:=by simpa using k
 unfold pP at a;split at a
 ·exact absurd a (by decide)
 rename_i l;split at a
 ·exact absurd a (by decide)
 refine⟨by simpa using j,by simp at l;omega,λx g=> ?_⟩;obtain⟨i,b,rfl⟩:=yH.1 g;rw[e.pre_len]at b;have h1:=jH a i b;have d:=jH h i b;have f:e.pre.getD i e=e.pre[i]'(by rw[e.pre_len];exact b):=by rw[zK,zE];rfl
 unfold Ex.errAt at h1;unfold Ex.unk at d;rw[f]at h1 d;exact⟨h1,d⟩
def Zm{k:Int}{n x:List UInt8}{l:List Ex}(h:(Ex.mk k n x l d).Fit c):((k=0\/k=1)/\l= []/\(k=1->x= [])/\∃y,sE c n=some y)\/((k=2\/k=3)/\2<=l.length):=by
 obtain⟨h1,f⟩:=h.self;replace h1:nJ k n x l.length=0:=h1;unfold nJ at h1;by_cases q:((k==0)||(k==1))=true
 ·left;rw[ip q]at h1;by_cases a:(decide ((l.length:Int)>0)||((k==1)&& !(x== [])))=true
  ·rw[ip a]at h1;exact absurd h1 (by decide)
  rw[iq a]at h1;by_cases b:(!ww n||(!(x== [])&& !ww x))=true
  ·rw[ip b]at h1;exact absurd h1 (by decide)
  simp only[yS,yU,zP,zC,qF,ZE,not_and,Bool.not_eq_false,qv]at q a b;refine⟨q,yv.1 ow,λe=>by simpa using a.2 e,?_⟩;replace f:(if(!(n== [])&& !nZ c n x)=true then(7:Int)else 0)=0:=f
  by_cases i:(!(n== [])&& !nZ c n x)=true
  ·rw[ip i]at f;exact absurd f (by decide)
  have m:¬(n== [])=true:=λe=>by
   have:n= []:=by simpa using e
   subst this;exact absurd b.1 (by decide)
  have g:nZ c n x=true:=by
   cases j:nZ c n x with
   |true=>rfl
   |false=>exact absurd (by simp[j,m]) i
  unfold nZ at g;simp only[zC]at g;exact uu.1 g.1
 ·rw[iq q]at h1;by_cases a:((k==2)||(k==3))=true
  ·rw[ip a]at h1;right;by_cases b:(decide ((l.length:Int)<2)|| !(n== [])|| !(x== []))=true
   ·rw[ip b]at h1;exact absurd h1 (by decide)
   simp only[yS,yU,zP,qF,ZE]at a b;exact⟨a,by omega⟩
  ·rw[iq a]at h1;exact absurd h1 (by decide)
theorem NW{l:List (List Trm)}(h:l≠[]):∀n,0<n->n<=l.length->rm l n≠[]
 |1,_,a=>by
  rw[rm,zE ow];simp[rm,oL]
 |n+2,_,a=>by
  have b:=NW h (n+1) ow ow;rw[rm,zE ow];simp only[oL];split
  ·exact b
  ·simp
def XF{l:List (List Trm)}(h:l≠[]):yO l≠[]:=by
 have a:(ry l).length=l.length:=by rw[ry,(tF _).length_eq,zI]
 have b:0<l.length:=yF.2 h;exact NW (λe=>by rw[e]at a;simp at a;omega) _ ow (zD _)
def gQ(l:List (List Trm)):(yO l).length<=l.length:=by
 have a:(ry l).length=l.length:=by rw[ry,(tF _).length_eq,zI]
 have:=XD (l:=ry l) (ry l).length;rw[a]at this;unfold yO;rw[a];exact this
def bC{l m:List (List Trm)}(h:l.Perm m):yO l=yO m:=by
 unfold yO ry;rw[Jp pF hZ (h.map wn)]
def nj{l m:List (List Trm)}(h:szd l=some m):m=l/\l.length<=64:=by
 unfold szd at h;split at h
 ·cases h
 ·cases h;exact⟨rfl,by omega⟩
structure AltsOk(n:Nat)(l:List (List Trm)):Prop where
 ne:l≠[]
 ts:∀t∈l,t≠[]/\t.length<=n
def AltsOk.mono{n m:Nat}{l:List (List Trm)}(h:AltsOk n l)(b:n<=m):AltsOk m l:=⟨h.ne,λt a=>⟨(h.ts t a).1,za (h.ts t a).2 b⟩⟩
def AltsOk.min{l:List (List Trm)}(h:AltsOk n l):AltsOk n (yO l):=⟨XF h.ne,λt b=>by
 obtain⟨y,c,rfl⟩:=ZD b;obtain⟨h1,a⟩:=h.ts y c;exact⟨Na h1,za (gR _) a⟩⟩
def AltsOk.app{l m:List (List Trm)}(h:∀t∈l,t≠[]/\t.length<=n)(k:AltsOk n m):AltsOk n (l++m):=⟨λe=>k.ne (jo.1 e).2,λt a=>by
 rcases yD.1 a with q|q
 ·exact h t q
 ·exact k.ts t q⟩
def Ws{a b:List (List Trm)}{t:List Trm}(h:t∈pZ a b):∃x∈a,∃y∈b,t=x++y:=by
 unfold pZ gT at h;obtain⟨k,c,rfl⟩:=zT.1 h;rw[uZ,zI,zI]at c;have d:0<b.length:=by
  rcases my b.length with e|e
  ·rw[e,Nat.mul_zero]at c;omega
  ·exact e
 have h1:k/b.length<a.length:=by rw[ou d];exact c
 have f:k%b.length<b.length:=fC _ d;refine⟨a[k/b.length],zG _,b[k%b.length],zG _,?_⟩;simp[gS,h1,f,mkA]
def Wr(a b:List (List Trm)):(pZ a b).length=a.length*b.length:=by rw[pZ,Wq,zI,zI]
def AltsOk.pairs{n m:Nat}{a b:List (List Trm)}(h:AltsOk n a)(k:AltsOk m b):AltsOk (n+m) (pZ a b):=by
 refine⟨λe=> ?_,λt d=> ?_⟩
 ·have:=Wr a b;rw[e]at this;have h1:0<a.length:=yF.2 h.ne;have c:0<b.length:=yF.2 k.ne;have:=Nat.mul_pos h1 c;simp at *;omega
 ·obtain⟨x,f,y,g,rfl⟩:=Ws d;have h1:=h.ts x f;have c:=k.ts y g;exact⟨λe=>h1.1 (jo.1 e).1,by rw[zM];omega⟩
def Yj{n:List UInt8}{y:Lic}(h:sE c n=some y):pz c y≠[]:=λe=>Tv (cX h) (qU.1 e)
def Qy:∀n:Nat,(∀e:Ex,e.size<=n->e.Fit c->∀l,rB c e=some l->l.length<=64/\AltsOk e.size l)/\
  ∀(k:Int)(a:List Ex),yt a<=n->(∀e∈a,e.Fit c)->∀(m:Nat)(first:Bool)(out R:List (List Trm)),(∀t∈out,t≠[]/\t.length<=m)->(first=false->out≠[])->(a= []->out≠[])->oK c k a first out=some R->AltsOk (m+yt a) R/\R.length<=out.length+64*a.length:=by
 intro n
 induction n with
 |zero=>
  refine⟨λe h=> ?_,λk a h hf m first out R h1 B h3 b=> ?_⟩
  ·cases e;simp only[Ex.size]at h;omega
  ·cases a with
   |nil=>simp only[oK]at b;cases b;exact⟨⟨h3 rfl,by simpa [yt]using h1⟩,by simp⟩
   |cons e l=>cases e;simp only[yt,Ex.size]at h;omega
 |succ n z=>
  have key:∀e:Ex,e.size<=n+1->e.Fit c->∀l,rB c e=some l->l.length<=64/\AltsOk e.size l:=λe h hf l f=>by
   obtain⟨k,M,x,a,d⟩:=e;simp only[Ex.size]at h⊢;have G:=Zm hf;rw[rB]at f;split at f
   ·cases f;exact⟨by simp,by simp,λt p=>by cases zY.1 p;exact⟨by simp,by simp⟩⟩
   split at f
   ·split at f
    ·cases f
    ·rename_i y J;obtain⟨rfl,r⟩:=nj f;refine⟨r,AltsOk.min ⟨by simpa using Yj J,λt p=> ?_⟩⟩;obtain⟨s,_,rfl⟩:=zT.1 p;exact⟨by simp,by simp⟩
   ·rename_i K L;split at f
    ·cases f
    ·rename_i out w;obtain⟨rfl,r⟩:=nj f;have A:2<=a.length:=by
      rcases G with⟨q,_⟩ | ⟨_,q⟩
      ·rcases q with rfl|rfl
       ·exact absurd rfl K
       ·exact absurd rfl L
      ·exact q
     have:=z.2 k a ow (λe F=>hf.kid F) 0 true [] out (λt p=>by cases p) (by simp) (λe=>by subst e;simp at A) w;exact⟨r,this.1.min.mono ow⟩
  refine⟨key,λk a h hf m first out R h1 B h3 b=> ?_⟩
  cases a with
  |nil=>simp only[oK]at b;cases b;exact⟨⟨h3 rfl,by simpa [yt]using h1⟩,by simp⟩
  |cons e a=>
   have C:0<e.size:=by cases e;simp only[Ex.size];omega
   simp only[yt]at h⊢;rw[oK]at b;split at b
   ·cases b
   ·rename_i l f;obtain⟨D,g⟩:=key e ow (hf e (by simp)) l f;have u:∀e∈a,e.Fit c:=λx I=>hf x (qI _ I);split at b
    ·have i:=AltsOk.app (n:=m+e.size) (λt p=>⟨(h1 t p).1,za (h1 t p).2 ow⟩) (g.mono (show e.size<=m+e.size by omega));have:=z.2 k a ow u (m+e.size) false (out++l) R i.ts (λ_=>i.ne) (λ_=>i.ne) b;refine⟨this.1.mono ow,?_⟩;have q:=this.2;rw[zM]at q;simp only[zm];omega
    ·split at b
     ·have i:=g.mono (show e.size<=m+e.size by omega);have:=z.2 k a ow u (m+e.size) false l R i.ts (λ_=>i.ne) (λ_=>i.ne) b;refine⟨this.1.mono ow,?_⟩;have q:=this.2;simp only[zm];omega
     ·rename_i j;have v:out≠[]:=B (by simpa using j);split at b
      ·cases b
      ·rename_i o H;obtain⟨rfl,E⟩:=nj H;have i:=(AltsOk.pairs ⟨v,h1⟩ g).min;have:=z.2 k a ow u (m+e.size) false _ R i.ts (λ_=>i.ne) (λ_=>i.ne) b;refine⟨this.1.mono ow,?_⟩;have q:=this.2;simp only[zm];omega
end Go.V
