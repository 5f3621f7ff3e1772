/- Rules of the machine of abstract values, part 10. No condition. -/
import Derived.Test.YtkenagjlanhnmaaGreatDoorW35
set_option linter.all false
set_option maxHeartbeats 8000000
namespace Go.V
open Go.Shelf Go.Proofs Go.Sort
open Go.RowKit (Below)
variable{α:Type}{id n i j:Nat}{g h0 h:Heap}{ts:List Trm}{d x y z:D}{S:Nat->Prop}{c:Cat}{e:Ex}{f:FuncId}{cap cs sc:List D}{fs:List Fac}{N:Int}
def WA [Inhabited α](enc:α->Value)(w:World)(a off m:Nat)(c:Array α)(d:Array Go.Obj):∀b,b≠a->b<w.heap.size->(sortWorld enc w a off m c d).heap[b]? =w.heap[b]? :=λb f g=>by
 show((putRow enc (Go.Sort.ahead w m) a off c).heap++d)[b]? =_;have h:(putRow enc (Go.Sort.ahead w m) a off c).heap.size=w.heap.size:=by simp[putRow,mapBlock,Go.Sort.ahead]
 rw[tr ow];show((Go.Sort.ahead w m).heap.modify a _)[b]? =_;rw[rV,iq (λe=>f e.symm)];rfl
section
variable{P:Program}{f cmp:FuncId}{β:Type}{dd:β->D}{xs:List β}{id:Nat}{pre post:List D}{h:Heap}{cf:β->β->Int}
abbrev V2(dd:β->D)(xs:List β)(M:Imm)(ρ:Ren):= {p:β×Value // p.1∈xs/\rel M ρ (dd p.1) p.2/\(dd p.1).flat=true}
theorem zE.of_sort1(h0:xs≠[])(he:pQ P f=true)(ba:∀args w,(callFunc cmp args).run P w=.ok (.enter cmp args) w)
  (O:h.at' id=some (.row (pre++xs.map dd++post))) (hO:SWO (ltOf cf)) (a2:xs.length<4611686018427387904)
  (ai:∀x∈xs,∀y∈xs,∀H,zE P cmp [dd x,dd y] H λr H'=>H'=H/\r=.int .i64 (cf x y))
  (a3:∀(α:Type)[Inhabited α](enc:α->Value),OneCell enc->∀(cf:α->α->Int),SWO (ltOf cf)->∀(g:Nat)(cb:Array Value)(t off cap:Nat)(d:Array α)(w:World),
   (∀args w,(callFunc g args).run P w=.ok (.enter g args) w)->CmpLays1 P g cb enc cf t off d.size w->Go.Sort.Holds enc w t off d->t<w.heap.size->d.size<4611686018427387904->
   Calls P f #[.slice (some ⟨t,off,none⟩) d.size cap,.func (.func g) #[] cb] w λe w'=>e=.returned (.tuple #[])/\∃u n Z,PermIn 0 d.size d u/\SortedIn (ltOf cf) 0 d.size u/\w'=sortWorld enc w t off n u Z):
  zE P f [.rs id 1 pre.length xs.length,.fn (.func cmp) [] []] h λr h'=>r=.tuple []/\∃ys:List β,ys.Perm xs/\ys.Pairwise (λa b=>¬cf b a<0)/\h'=h.set id (.row (pre++ys.map dd++post)):=by
 refine⟨he,λw0 G M ρ w va L Q a1 hr=> ?_⟩;simp only[wJ]at hr;obtain⟨v,ch,b2,W,v2,ck,rfl,a6,rfl⟩:=hr;simp only[rel,wJ]at W a6;obtain⟨_,b5,l,cap,o,hl,rfl,⟨b6,b7⟩,cg,ho⟩:=W;obtain⟨_,fa,fc,rfl,bk,bo⟩:=a6;have au:fa= #[]:=sS (by simpa using bk);have a0:fc= #[]:=sS (by simpa using bo);subst au a0;have b3:0<xs.length:=yA.2 h0;have ho:o=pre.length:=by
  rcases ho with hz|ho
  ·omega
  ·exact ho
 subst ho;have a7:va= #[.slice (some ⟨l.blk,pre.length,none⟩) xs.length cap,.func (.func cmp) #[] #[]]:=sS (by simpa using b2);subst a7;obtain⟨l',h1,D,hM,c,e,hw,cc,b8,K⟩:=Q.live id _ O;rw[hl]at h1;cases h1;have ag:l.blk<w.heap.size:=(yJ.1 hw).1;have a9:∀i (s:i<xs.length),(pre++xs.map dd++post)[pre.length+i]? =some (dd xs[i]):=λi s=>by
  rw[qh,yT ow,uR,yg (by simpa using s),zj,zB s];rfl
 have F:∀i (s:i<xs.length),∃v,c[pre.length+i]? =some v/\rel M ρ (dd xs[i]) v/\(dd xs[i]).flat=true:=λi s=>by
  obtain⟨h1,v,X,h3⟩:=K _ _ (a9 i s);exact⟨v,X,h3,h1⟩
 let mk:_root_.Fin xs.length->V2 dd xs M ρ:=λi=>⟨(xs[i.1],(F i.1 i.2).choose),zH i.2,(F i.1 i.2).choose_spec.2⟩
 letI:Inhabited (V2 dd xs M ρ):=⟨mk ⟨0,b3⟩⟩
 let enc:V2 dd xs M ρ->Value:=λp=>p.1.2
 have S:OneCell enc:=λp=>Zl p.2.2.1 p.2.2.2
 let d:Array (V2 dd xs M ρ):=Array.ofFn mk
 have R:d.size=xs.length:=by simp[d]
 have bb:∀i (s:i<xs.length),d[i]! =mk ⟨i,s⟩:=λi s=>by rw[uH d i (by rw[R];exact s)];simp[d]
 have ak:d.toList.map (λp=>p.1.1)=xs:=by
  apply sT;intro i;rw[zj,qn];by_cases s:i<xs.length
  ·rw[sK (by rw[R];exact s),zB s,wB];simp[d,mk]
  ·rw[rL ow,t4 ow];rfl
 have a8:SWO (ltOf λp q:V2 dd xs M ρ=>cf p.1.1 q.1.1):=⟨λx=>hO.irrefl _,λx y z=>hO.trans _ _ _,λx y z=>hO.ntrans _ _ _⟩;have N:Go.Sort.Holds enc w l.blk pre.length d:=by
  intro j hj;rw[R]at hj;refine⟨?_,by simp[World.frozen?,hw]⟩;rw[bb _ hj];have W:=(F j hj).choose_spec.1;simp only[World.cell?,hw,sC,zl,yy];exact W
 have U:CmpLays1 P cmp #[] enc (λp q=>cf p.1.1 q.1.1) l.blk pre.length d.size w:=by
  intro m Z J ca x y;have B:=WA enc w l.blk pre.length m J Z;have T:KT P (sortWorld enc w l.blk pre.length m J Z):=⟨λg Y=>by
   have X:=L.here Q.below Y;unfold Lib.TabIs World.var? at X⊢;rw[Y]at X⊢;simp only[sw]at X⊢;have C:=(L.1 g Y).1;rw[B g (λq=>D (q▸C)) (zq (w0.kept g C) Q.below.size)];exact X,λg Y=>by
   obtain⟨m,hm⟩:=L.max Q.below Y;have C:=(L.2 g Y).1;exact⟨m,(wj (w:=w) (B g (λq=>D (q▸C)) (zq (w0.kept g C) Q.below.size))).trans hm⟩⟩
  refine zE.stays (λH=>(ai x.1.1 x.2.1 y.1.1 y.2.1 H).mono λr H' hq=>hq.2) (λM ρ v W=>by simp only[rel]at W;exact W.1) (M:=M) (ρ:=ρ) (n:=h.next) (λb o v hb=> ?_) T a1 ?_
  ·have b1:b≠l.blk:=λq=>by subst q;rw[hM o]at hb;cases hb
   rw[<-Q.imm b o v hb];exact wj (w:=w) (B b b1 (Q.lt hb))
  ·show wJ M ρ _ [_,_];simp only[wJ];exact⟨_,_,rfl,x.2.2.1,_,_,rfl,y.2.2.1,rfl⟩
 have A:=a3 (V2 dd xs M ρ) enc S (λp q=>cf p.1.1 q.1.1) a8 cmp #[] l.blk pre.length cap d w ba U N ag (by rw[R];exact a2);rw[R]at A;refine A.mono λe w' hq=> ?_;obtain⟨rfl,u,n,Z,k,E,rfl⟩:=hq;rw[<-R]at k;have a5:=PermIn.list k;have b9:u.size=xs.length:=by rw[k.1,R]
 have b4:(u.toList.map λp=>p.1.1).Perm xs:=by
  have q:=a5.map (λp=>p.1.1)
  rwa [ak]at q
 let I:V2 dd xs M ρ->zBC:=λp=>⟨(dd p.1.1,p.1.2),p.2.2.2⟩
 have a4:∀J:List (V2 dd xs M ρ),(J.map I).map (λq=>q.1.1)=(J.map λp=>p.1.1).map dd:=λJ=>by rw[wF,wF];rfl
 have b0:∀J:List (V2 dd xs M ρ),(J.map I).map (λq=>q.1.2)=J.map enc:=λJ=>by rw[wF];rfl
 have V:h.at' id=some (.row (pre++(d.toList.map I).map (λq=>q.1.1)++post)):=by rw[a4,ak];exact O
 have hS:=(Q.ahead n).putRow (α:=zBC) (enc:=λq=>q.1.2) (dd:=λq=>q.1.1) (λq=>q.2) V hl (ys:=u.toList.map I) (a5.map I).length_eq (λq hq=>by
  obtain⟨p,hp,rfl⟩:=zM.1 hq;exact p.2.2.1)
 have ad:=hS.grow Z;rw[ZD,j7,b0,a4,<-j7,Array.toArray_toList,<-ZD]at ad;refine⟨.tuple #[],M,ρ,.tuple [],_,rfl,MLe.refl _,RLe.refl _,ad,a1,by simp only[rel,wJ];exact⟨#[],rfl,rfl⟩,rfl,u.toList.map (λp=>p.1.1),b4,?_,rfl⟩;rw[tT,uy];intro i j s hj bs;have bx:j<u.size:=by simpa using hj
 have:=E i j (yC _) bs ow;rw[uH u j bx,uH u i ow]at this;simpa [ltOf]using this
end
open Go.Proofs.Tryz
open Go.Proofs Go.Shelf Go.Sort
set_option maxRecDepth 100000
def ZE:QC tC where
 anti x y:=by unfold tC;(repeat' split)<;>omega
 trans x y z h1 h2:=by
  have e:∀a b:Int,tC a b<=0↔a<=b:=λa b=>by unfold tC;(repeat' split)<;>omega
  rw[e]at *;omega
def JR(x y:Int)(h:tC x y=0):x=y:=by unfold tC at h;(repeat' split at h)<;>omega
theorem W4:∀a b:List Trm,mG a b=Zn yk a b
 | [],[]=>rfl
 | [],_::_=>rfl
 |_::_,[]=>rfl
 |x::xs,y::ys=>by
  simp only[mG,Zn,N5,W4 xs ys];by_cases h:yk x y=0<;>simp[h]
def mU(a b:List Trm):dS a b=N5 (tC a.length b.length) (Zn yk a b):=by
 unfold dS N5;simp only[orL,W4];split
 ·split
  ·rename_i q;exact q.symm
  ·rfl
 ·rfl
def Xs:QC dS:=by
 have:=(ZE.key (γ:=List Trm) (λa=>(a.length:Int))).lex gx.list;exact⟨λx y=>by rw[mU,mU];exact this.anti x y,λx y z=>by rw[mU,mU,mU];exact this.trans x y z⟩
def Tn(x y:List Trm)(h:dS x y=0):x=y:=by
 rw[mU,N5]at h;split at h
 ·exact UY bG _ _ h
 ·rename_i q;exact absurd h q
def V6(l:List (List Trm)):(qe (l.map mkA)).flatten=l.map λa=>(mkA a).d:=by rw[oM,wF];rfl
variable{id:Nat}{h:Heap}{f:FuncId}
def B5{l:List (List Trm)}(h0:l≠[])(t:l.length<=1048576)(a:∀i∈l,i.length<=1048576)(b:g.at' id=some (.row (qe (l.map mkA)).flatten)):
  zE prog 332 [.rs id 1 0 l.length,.fn (.func 333) [] []] g λr h'=>r=.tuple []/\h'=g.set id (.row (qe ((srt dS l).map mkA)).flatten):=by
 have:=zE.of_sort1 (P:=prog) (f:=332) (cmp:=333) (dd:=λi=>(mkA i).d) (xs:=l) (id:=id) (pre:=[]) (post:=[]) (h:=g) (cf:=dS) h0 kr (enters_of func333 kr rfl) (by simpa [V6]using b) Xs.swo ow
  (λx q y s H=>Tq (yi.mk .no) (yi.mk .no) (a x q) (a y s) H) (λα _ enc h1 cf k g cb c off cap d w o n j m e=>Any.slices_SortFunc Tryz.sortAlt enc h1 cf k g cb c off cap d w o n j m e)
 refine this.mono λr h' ⟨e1,ys,p,e,e2⟩=>⟨e1,?_⟩;rw[e2,Md Xs Tn p e,V6];simp
open Go.Proofs
def n8(ts:List Trm):List Trm:=cpt yk (srt yk ts)
def gk(out:List (List Trm))(a:List Trm):List (List Trm):=if(out.any λb=>ct a b)=true then out else out++ [a]
def jh(l:List (List Trm)):Nat->List (List Trm)
 |0=>[]
 |n+1=>match l[n]? with
  |none=>jh l n
  |some a=>gk (jh l n) a
def pT(l:List (List Trm)):List (List Trm):=srt dS (l.map n8)
def uL(l:List (List Trm)):List (List Trm):=jh (pT l) (pT l).length
def MJ(h:ts≠[]):n8 ts≠[]:=λe=>by
 have h1:0<(srt yk ts).length:=by rw[(sH ts).length_eq];exact yA.2 h
 have:=UK (c:=yk) h1 _ (zD _) h1;rw[show tD yk (srt yk ts) (srt yk ts).length=n8 ts from rfl,e]at this
 exact absurd this (wN _)
def R2(a:List Trm):(n8 a).length<=a.length:=by
 have:=lv (c:=yk) (l:=srt yk a) (srt yk a).length;rw[(sH a).length_eq]at this;exact(by rw[<-(sH (c:=yk) a).length_eq];exact lv _)
def MF(h:ts≠[])(a:ts.length<=4096):(mkA ts).Ok:=⟨yi.mk .no,h,a⟩
theorem gm{l:List (List Trm)} :∀n,∀x∈jh l n,x∈l
 |0,x,h=>by cases h
 |n+1,x,h=>by
  rw[jh]at h;split at h
  ·exact gm n x h
  ·rename_i a e;unfold gk at h;split at h
   ·exact gm n x h
   ·rcases yp.1 h with h|h
    ·exact gm n x h
    ·cases ze.1 h;exact zg e
theorem Xg{l:List (List Trm)} :∀n,(jh l n).length<=n
 |0=>zD _
 |n+1=>by
  have a:=Xg (l:=l) n;rw[jh];split
  ·omega
  ·unfold gk;split
   ·omega
   ·rw[zR];simp only[zm,yo];omega
def Rx{l:List (List Trm)}{x:List Trm}(h:x∈uL l):∃y∈l,x=n8 y:=by
 have:=ZN.1 (gm _ x h);obtain⟨y,a,rfl⟩:=zM.1 this;exact⟨y,a,rfl⟩
theorem Y1{l:List Alt}(hd:yi 1 (qe l) d)(h0:l≠[])(hl:l.length<=1048576)(J:∀a∈l,a.Ok)(g:Heap):
  zE prog 252 [d] g λr h'=>h'=g/\Fin 1 (qe ((uL (l.map Alt.ts)).map mkA)) r:=by
 refine xU kr λb5=>xS ?_;have b4:=tn hd;refine xP λQ hQ=> ?_;have b7:=Own.start (Ext.refl g) 1;refine zu zKt ?_;simp only[f252,zA]
 repeat' first|simp only[go_sem, *]|apply bc<;>intro w
 refine zd (λi fr h=>∃s,fr 10=d/\fr 11=.int .i64 (l.length:Int)/\fr 12=.int .i64 (i:Int)/\fr 3=s/\Yi g h 1 (qe (((l.take i).map λa=>n8 a.ts).map mkA)) s) l.length ow ?_ ?_ ?_
 ·have X:=Yi.start (Ext.refl g) 1;simp only[go_sem,zT,zV,zI];exact⟨_,rfl,X⟩
 ·rintro i fr h q e1 ew ⟨s,ad,ag,ai,f3,A⟩;have a1:=ox hd q;obtain⟨o1,o2,o3⟩:=J _ (zH q);have b2:(l.take (i+1)).map (λa=>n8 a.ts)=(l.take i).map (λa=>n8 a.ts)++ [n8 l[i].ts]:=by rw[zQ q,wH];rfl
  have S:((l.take i).map λa=>n8 a.ts).length=i:=by rw[zG,yR];omega
  rw[b2];generalize l[i]=a at *
  generalize(l.take i).map (λa=>n8 a.ts)=pre at *
  obtain⟨k1,k2,k3⟩:=yP o1;have a7:=λh=>Ks o1 o2 ow h;have B:=λ(H:Heap) (hr:H.at' h.next=some (.row (wt a.ts).flatten))=>B8 (id:=h.next) o2 ow hr;have bb:srt yk a.ts≠[]:=λe=>o2 (yM.1 (by rw[<-(sH (c:=yk) a.ts).length_eq,e];rfl));have bk:(srt yk a.ts).length=a.ts.length:=(sH a.ts).length_eq;have O:=λ(H:Heap) (hr:H.at' h.next=some (.row (wt (srt yk a.ts)).flatten))=>Qu (id:=h.next) bb ow hr;rw[bk]at O;have ca:D.sl 2 (wt (cpt yk (srt yk a.ts))) .no=(mkA (n8 a.ts)).d:=rfl
  repeat' first|simp only[go_sem, *]|apply bc<;>intro w|(refine zE.mono (a7 _) ?_;rintro r h ⟨rfl,rfl⟩)
  refine(B _ (z8 _ _ _)).mono ?_;rintro r j ⟨rfl,rfl⟩
  repeat' first|simp only[go_sem, *]|apply bc<;>intro w
  refine(O _ (zW _ _ _)).mono ?_;rintro r j ⟨rfl,rfl⟩;have hE:Ext h (((h.new h.next (.row (wt a.ts).flatten)).set h.next (.row (wt (srt yk a.ts)).flatten)).del h.next):=(((Ext.refl h).new (zD _) _).set (zD _) _).del (zD _);generalize((h.new h.next (.row (wt a.ts).flatten)).set h.next (.row (wt (srt yk a.ts)).flatten)).del h.next=H at *
  have b0:=A.ext hE;obtain⟨d',G,a5,bx,b3⟩:=b0.app (P:=prog) (ys:=qe [mkA (n8 a.ts)]) (tk:=.full) uV po ue ow (λcs=>X2 underlying195) (si _) (si _) (by simp[qe]) (by rw[qC,zG,S,tU];unfold lim;simp[qe];omega) (by rw[qC,zG,S];unfold lim;simp[qe];omega);have U:=cQ (mkA (n8 a.ts)).d H.next H rfl rfl rfl;have C:qe [mkA (n8 a.ts)]= [[(mkA (n8 a.ts)).d]]:=rfl;rw[C]at a5 b3;have m:Yi g G 1 (qe ((pre++ [n8 a.ts]).map mkA)) d':=by
   rw[wH]
   have:qe (pre.map mkA++List.map mkA [n8 a.ts])=qe (pre.map mkA)++qe [mkA (n8 a.ts)]:=by simp[qe]
   rw[this];exact bx
  repeat' first|simp only[go_sem, *]|apply bc<;>intro w
  exact⟨_,rfl,m⟩
 ·rintro fr h e1 ⟨s,ad,ag,ai,f3,A⟩;rw[z6]at A;have hS:srt dS (l.map λa=>n8 a.ts)=pT (l.map Alt.ts):=by rw[pT,wF];rfl
  have a4:(pT (l.map Alt.ts)).length=l.length:=by rw[<-hS,(sH _).length_eq,zG]
  have a9:l.map (λa=>n8 a.ts)≠[]:=by simp[h0]
  have F:(l.map λa=>n8 a.ts).length=l.length:=zG ..;have v:∀M∈pT (l.map Alt.ts),M≠[]/\M.length<=4096:=λM h=>by
   rw[<-hS]at h;obtain⟨a,ha,rfl⟩:=zM.1 (ZN.1 h);exact⟨MJ (J a ha).ne,zf (R2 _) (J a ha).len⟩
  have a8:∀M∈l.map (λa=>n8 a.ts),M.length<=1048576:=λM h=>by
   have:=(v M (by rw[<-hS];exact ZN.2 h)).2;omega
  obtain⟨Z,w⟩:=A;rcases w with⟨_,e⟩ | ⟨id,rfl,W,hid,R,_⟩
  ·exact absurd (by simpa [qe]using e) h0
  have C:(qe ((l.map λa=>n8 a.ts).map mkA)).length=l.length:=by rw[qC,zG,F]
  rw[C]at f3;have B:=B5 a9 ow a8 W;have T:uL (l.map Alt.ts)=jh (pT (l.map Alt.ts)) (pT (l.map Alt.ts)).length:=rfl;rw[T]at hQ;rw[F,hS]at B;generalize pT (l.map Alt.ts)=L at *
  have E0:Ext g (h.set id (.row (qe (L.map mkA)).flatten)):=Z.set hid _;have a3:∀r h',Ext g h'->below g.next (qD r)->Fin 1 (qe ((jh L L.length).map mkA)) (qD r)->Q r h':=λr h' q1 q2 q3=>hQ r h' ⟨q1,q2,q3⟩
  repeat' first|simp only[go_sem, *]|apply bc<;>intro w|(refine zE.mono B ?_;rintro r h ⟨rfl,rfl⟩)
  have r0:(h.set id (.row (qe (L.map mkA)).flatten)).at' id=some (.row (qe (L.map mkA)).flatten):=zW _ _ _;have E:id<(h.set id (.row (qe (L.map mkA)).flatten)).next:=R;generalize h.set id (.row (qe (L.map mkA)).flatten)=H at *
  have cc:=λ(h:Heap)=>nM (P:=prog) (t:=44) (sz:=1) (id:=id) (off:=0) (len:=l.length) (h:=h) underlying44
  repeat' first|simp only[go_sem, *]|apply bc<;>intro w
  refine zd (λi fr h=>∃o,fr 28=.rs id 1 0 l.length/\fr 29=.int .i64 (l.length:Int)/\fr 30=.int .i64 (i:Int)/\fr 7=o/\Own H h 1 (qe ((jh L i).map mkA)) o) l.length ow ?_ ?_ ?_
  ·have X:=Own.start (Ext.refl H) 1;simp only[go_sem,zT,zV,zI];exact⟨_,rfl,X⟩
  ·rintro i fr j q ec ew ⟨o,ak,a0,a2,f7,A⟩;have u:i<L.length:=ow;have a1:=qj (P:=prog) (sz:=1) (id:=id) uV ue (k:=.i64) q;have b1:j.at' id=some (.row (qe (L.map mkA)).flatten):=by rw[A.1.2 _ E];exact r0
   have b8:(qe (L.map mkA)).flatten[i*1]? =some (mkA L[i]).d:=by rw[V6,ww,zj,zB u];rfl
   obtain⟨m1,m2⟩:=v L[i] (zH u);have ba:jh L (i+1)=gk (jh L i) L[i]:=by rw[jh,zB u]
   have Y:∀x∈jh L i,x≠[]/\x.length<=4096:=λx Z=>v x (gm i x Z);have F:=Xg (l:=L) i;rw[ba];generalize L[i]=a at *
   generalize jh L i=out at *
   have cb:j.next<(j.new j.next (.row [(mkA a).d])).next:=by rw[za];omega
   have V:(j.new j.next (.row [(mkA a).d])).at' j.next=some (.row [(mkA a).d]):=z8 _ _ _;have b6:yX prog 195 (.ptr j.next 0) (mkA a).d (j.new j.next (.row [.nilsl]))=some (j.new j.next (.row [(mkA a).d])):=by
    rw[yU (z8 _ _ _) ue (by simp) rfl rfl,gq];rfl
   have I:=A.ext ((Ext.refl j).new (zD _) (.row [(mkA a).d]));have n:=gW (l:=out.map mkA) (d:=o) I.isSl (by rw[zG];omega) (f:=334) (cap:=[.ptr j.next 0]) (p:=λb=>ct a b.ts) (g:=j.new j.next (.row [(mkA a).d])) (λs X=>by
    obtain⟨y,hy,rfl⟩:=zM.1 X;obtain⟨n1,n2⟩:=Y y hy;exact⟨(MF n1 n2).sl,zCO (MF m1 m2) (MF n1 n2) V⟩)
   have N:(out.map mkA).any (λb=>ct a b.ts)=out.any λb=>ct a b:=by rw[ZY];rfl
   rw[N]at n;have a6:(mkA a).d.cells= [(mkA a).d]/\(mkA a).d.notTuple=true:=⟨rfl,rfl⟩;obtain⟨k1,k2⟩:=a6;cases hb:(out.any λb=>ct a b)with
   |true=>
    have K:gk out a=out:=ip hb;rw[K];rw[hb]at n;generalize j.new j.next (.row [(mkA a).d])=h3 at *
    repeat' first|simp only[go_sem, *]|apply bc<;>intro w|refine zE.use n ?_
    exact⟨_,rfl,I⟩
   |false=>
    have K:gk out a=out++ [a]:=iq (by rw[hb];exact zZ);rw[K];rw[hb]at n;have U:=λnid h=>cQ (mkA a).d nid h rfl rfl rfl;have b9:lR prog 195 (.ptr j.next 0) (j.new j.next (.row [(mkA a).d]))=some (mkA a).d:=by
     simp only[go_sem,V]
    generalize j.new j.next (.row [(mkA a).d])=h3 at *
    repeat' first|simp only[go_sem, *]|apply bc<;>intro w|refine zE.use n ?_
    refine I.appH (ys:=qe [mkA a]) uV po ue ow (si _) (by simp[qe]) (by rw[qC,zG,tU];unfold lim;simp[qe];omega) (by rw[qC,zG];unfold lim;simp[qe];omega) λd' h' bo=> ?_;have bs:Own H h' 1 (qe ((out++ [a]).map mkA)) d':=by
     rw[wH]
     have:qe (out.map mkA++List.map mkA [a])=qe (out.map mkA)++qe [mkA a]:=by simp[qe]
     rw[this];exact bo
    repeat' first|simp only[go_sem, *]|apply bc<;>intro w
    exact⟨_,rfl,bs⟩
  ·rintro fr j ec ⟨o,ak,a0,a2,f7,A⟩;have m:=A.2.1.fin (λx Z=>by
    obtain⟨y,hy,rfl⟩:=zM.1 Z;obtain⟨z,_,rfl⟩:=zM.1 hy;exact bd z)
   have hq:=a3 o j (E0.trans A.1) (qF (yC _) _ m.1) (by rw[a4];exact m.2);exact au
noncomputable def AG:Cfg:=⟨λt=>List.contains (α:=Nat) [22] t,λi=>(VI (α:=List (Nat×Fl)) [] i).getD []⟩
def zOV(t:Tmp):AG.mu t=List.contains (α:=Nat) [22] t:=(rfl)
def zO4:Qg prog AG f385=true:=kr
noncomputable def AF:Cfg:=⟨λt=>List.contains (α:=Nat) [33] t,λi=>(VI (α:=List (Nat×Fl)) [] i).getD []⟩
def Cz(t:Tmp):AF.mu t=List.contains (α:=Nat) [33] t:=(rfl)
def zO3:Qg prog AF f338=true:=kr
def Bg(h0:0<n)(k:n<=1048576)(h:Heap):
  zE prog 385 [.nilsl,.int .i64 n] h λr h'=>∃xs:List D,xs.length=n*2/\r=.rs h.next 2 0 0/\h'=h.new h.next (.row xs):=by
 have e1:decide ((n:Int)<0)=false:=zP ow;have e2:IntKind.i64.wrap (0-0)=0:=rfl;have e3:IntKind.i64.wrap ((n:Int)-0)=n:=by rw[qU ow ow];omega
 have c:decide ((n:Int)>0)=true:=zS ow;have d:uZ prog 195 .nilsl none (some (.int .i64 0)) none h=some .nilsl:=by
  simp[uZ,cy,fR,uF,uq,rR,VA,Td]
 have e:mR prog true h.next 195 3 .nilsl (.int .i64 n) h=some (.rs h.next 2 0 n,h.new h.next (.row (lV n [.str [],.str []]))):=by
  have j:n*32<=lim:=by unfold lim;omega
  have a:n<=lim:=by unfold lim;omega
  simp only[mR,underlying3,uF,sW,uq,kY,ui,D.notTuple,D.cells];rw[ip (by simp[j,a,h0]),pH underlying197]
 have f:uZ prog 195 (.rs h.next 2 0 n) none (some (.int .i64 0)) none (h.new h.next (.row (lV n [.str [],.str []])))=some (.rs h.next 2 0 0):=
  np (n:=0) cy uF uq ow
 have i:∀h:Heap,mC prog 195 .nilsl h=some (.int .i64 0):=λh=>wa (sz:=2) yi.nil underlying195;refine xO mix func385 zO4 rfl rfl ?_;simp only[f385,zA];simp only[go_sem,zOV,e1,e2,e3,c,Gb underlying195,i,d,e,f,Option.map_none,wB,yo,Int.natCast_zero,zI];refine⟨lV n [.str [],.str []],?_,rfl⟩
 have:∀m,(lV m [D.str [],D.str []]).length=m*2:=λm=>by
  induction m with
  |zero=>rfl
  |succ m b=>
   change (List.replicate m [D.str [],D.str []]).flatten.length=_ at b;change (List.replicate (m+1) [D.str [],D.str []]).flatten.length=_;rw[tX,yS,zR,b];simp;omega
 exact this n
def zB1(h0 h:Heap)(l:List Trm)(d:D):Prop:=Ext h0 h/\∃id xs,d=.rs id 2 0 l.length/\h.at' id=some (.row xs)/\h0.next<=id/\id<h.next/\l.length*2<=xs.length/\xs.take (l.length*2)=(wt l).flatten
def I8(l:List Trm):(wt l).flatten.length=l.length*2:=by rw[tE (pn l),wl]
def Gc{l c:List Trm}{d g:D}(v:zB1 h0 h l d)(n:yi 2 (wt c) g)(E:l.length<=1048576)(z:c.length<=1048576):
  ∃r h',qg prog true h.next 195 d g (tu d g h)=some (r,h')/\zB1 h0 h' (l++c) r:=by
 obtain⟨k,id,xs,rfl,hid,w,B,A,q⟩:=v;have u:(l.length+c.length)*32<=lim:=by unfold lim;omega
 have m:l.length+c.length<=lim:=by unfold lim;omega
 have C:∀a:Heap,QU 2 g a=some (wt c).flatten:=λa=>by
  rcases n with⟨rfl,p⟩ | ⟨tk,rfl⟩
  ·have:c= []:=wv.1 p;subst this;rfl
  ·simp only[QU,qS]
 have f:(xs.take (l.length*2)).length=l.length*2:=by rw[yR];omega
 have b:=I8 c;have key:∀a:Heap,a.at' id=some (.row (xs.take (l.length*2)))->qg prog true h.next 195 (.rs id 2 0 l.length) g a=some (.rs h.next 2 0 (l.length+c.length),(a.del id).new h.next (.row (xs.take (l.length*2)++(wt c).flatten))):=λa e=>by
  simp only[qg,uF,Yg,uq,qS,C,b,tA _ (show 0<2 by omega),tp,kY,tz];rw[ip (by simp[u,m]),e];simp only[];rw[ip (by rw[f])]
 obtain⟨a,e1,e2,e3,t⟩:∃a,tu (.rs id 2 0 l.length) g h=a/\a.next=h.next/\(∀j,j≠id->a.at' j=h.at' j)/\a.at' id=some (.row (xs.take (l.length*2))):=by
  by_cases s:l.length*2<xs.length
  ·refine⟨h.set id (.row (xs.take (l.length*2))),?_,rfl,λj y=>by simp[Heap.set,y],zW _ _ _⟩;rcases n with⟨rfl,p⟩ | ⟨tk,rfl⟩ <;>simp[tu,hid,s]
  ·have q:xs.take (l.length*2)=xs:=yV ow;refine⟨h,?_,rfl,λ_ _=>rfl,by rw[q];exact hid⟩;rcases n with⟨rfl,p⟩ | ⟨tk,rfl⟩ <;>simp[tu,hid,s]
 have o:Ext h0 a:=⟨by rw[e2];exact k.1,λi x=>by rw[e3 i ow];exact k.2 i x⟩;rw[e1,key a t];refine⟨_,_,rfl,(o.del w).new k.1 _,h.next,_,by rw[zR],z8 _ _ _,k.1,?_,?_,?_⟩
 ·have:(a.del id).next=a.next:=rfl;simp only[Heap.new,this,e2];omega
 ·rw[zR,zR,f,b];omega
 ·rw[q,Gl,yV (by rw[zR,zR,I8,b];omega)]
theorem Kt{a b:Alt}(Y:a.Ok)(Z:b.Ok)(g:Heap):
  zE prog 338 [.sl 1 [[a.d],[b.d]] .full] g λr h'=>h'=g/\r=(mkA (a.ts++b.ts)).d:=by
 obtain⟨P,Q,a3⟩:=Y;obtain⟨R,b2,b3⟩:=Z;have ak:0<a.ts.length:=yA.2 Q;refine xU kr λai=> ?_
 suffices hh:zE prog 338 [.sl 1 [[a.d],[b.d]] .full] g λr h'=>zB1 g h' (a.ts++b.ts) r by
  refine zE.freezeD (hh.mono ?_);rintro r h' ⟨X,id,xs,rfl,hid,hg,q,ad,ht⟩;refine⟨id,xs,hid,X.del hg,?_⟩;rw[XN (xs:=wt (a.ts++b.ts)) (rest:=xs.drop ((a.ts++b.ts).length*2)) (pn _) (wl _) (by rw[<-ht,qP])];exact⟨H0 _ _,rfl⟩
 obtain⟨M,o,p,u⟩:∃M:Nat->Nat,M 0=0/\M 1=a.ts.length/\M 2=a.ts.length+b.ts.length:=⟨λi=>if i=0 then 0 else if i=1 then a.ts.length else a.ts.length+b.ts.length,rfl,rfl,rfl⟩
 obtain⟨L,c,j,m⟩:∃L:Nat->List Trm,L 0= []/\L 1=a.ts/\L 2=a.ts++b.ts:=⟨λi=>if i=0 then []else if i=1 then a.ts else a.ts++b.ts,rfl,rfl,rfl⟩
 obtain⟨k,e,f⟩:∃k:Nat->Alt,k 0=a/\k 1=b:=⟨λi=>if i=0 then a else b,rfl,rfl⟩
 have ag:∀h:Heap,mC prog 44 (.sl 1 [[a.d],[b.d]] .full) h=some (.int .i64 2):=λh=>wa (yi.mk .full) underlying44;have A:∀i:Nat,i<2->yt prog 44 (.sl 1 [[a.d],[b.d]] .full) (.int .i64 (i:Int))=some (.iptr [(k i).d] 0)/\yi 2 (wt (k i).ts) (k i).d/\M (i+1)=M i+(k i).ts.length/\L (i+1)=L i++(k i).ts/\(L i).length<=8192/\(k i).ts.length<=8192/\M i<=8192:=λi hi=>by
  rcases i with _|_|i
  ·refine⟨yn (yi.mk .full) uV ue (by rw[e];rfl),by rw[e];exact P,by rw[o,e,p];omega,by rw[c,j,e];rfl,by rw[c];simp,by rw[e];omega,by omega⟩
  ·refine⟨yn (yi.mk .full) uV ue (by rw[f];rfl),by rw[f];exact R,by rw[p,f,u],by rw[j,m,f],by rw[j];omega,by rw[f];omega,by show M 1<=8192;omega⟩
  ·omega
 clear e f;refine xO mix func338 zO3 rfl rfl ?_;simp only[f338,zA]
 repeat' first|simp only[go_sem,Cz, *]|apply bc<;>intro w
 refine zd (λi fr h=>fr 0=.sl 1 [[a.d],[b.d]] .full/\fr 9=.sl 1 [[a.d],[b.d]] .full/\fr 10=.int .i64 2/\fr 11=.int .i64 (i:Int)/\fr 3=.int .i64 ((M i:Nat):Int)/\h=g) 2 ow ?_ ?_ ?_
 ·simp only[go_sem,zT,zV,zI,Cz,o]
 ·rintro i fr h q e1 S ⟨T,V,E,s,U,rfl⟩;obtain⟨x1,B,C,D,x5,x6,x7⟩:=A i q;have N:=uf B;have hw:IntKind.i64.wrap (((M i:Nat):Int)+(((k i).ts.length:Nat):Int))=((M (i+1):Nat):Int):=by rw[C,qU ow ow];omega
  have O:decide (((M (i+1):Nat):Int)<0)=false:=zP ow;have e2:decide ((i:Int)<2)=true:=e1;clear C D A o p u
  repeat' first|simp only[go_sem,Cz, *]|apply bc<;>intro w
 ·rintro fr h e1 ⟨T,V,E,s,U,rfl⟩;have e2:decide ((((2:Nat):Int))<2)=false:=rfl;have z:=Bg (n:=M 2) ow ow h;have J:fr 11=.int .i64 2:=s;clear e1 s o p u
  repeat' first|simp only[go_sem,Cz, *]|apply bc<;>intro w
  refine z.mono ?_;rintro r W ⟨xs,au,rfl,rfl⟩;have y:zB1 h (h.new h.next (.row xs)) (L 0) (.rs h.next 2 0 0):=⟨(Ext.refl h).new (zD _) _,h.next,xs,by rw[c];rfl,z8 _ _ _,zD _,by rw[za];omega,by rw[c];simp,by rw[c];rfl⟩;generalize h.new h.next (.row xs)=W at *
  clear z
  repeat' first|simp only[go_sem,Cz, *]|apply bc<;>intro w
  refine zd (λi fr I=>fr 25=.sl 1 [[a.d],[b.d]] .full/\fr 26=.int .i64 2/\fr 27=.int .i64 (i:Int)/\zB1 h I (L i) (fr 6)) 2 ow ?_ ?_ ?_
  ·simp only[go_sem,zT,zV,zI,Cz];exact y
  ·rintro i l I q e1 S ⟨F,G,t,v⟩;obtain⟨d,H⟩:∃x,l 6=x:=⟨_,rfl⟩;rw[H]at v;obtain⟨x1,B,C,D,x5,x6,x7⟩:=A i q;obtain⟨d',h5,k1,k2⟩:=Gc v B ow ow;rw[<-D]at k2;have e2:decide ((i:Int)<2)=true:=e1;obtain⟨q1,q2,q3⟩:=yP B;clear C D A c j m v y
   repeat' first|simp only[go_sem,Cz, *]|apply bc<;>intro w
  ·rintro l I e1 ⟨F,G,t,v⟩;have e2:decide ((((2:Nat):Int))<2)=false:=rfl;have K:l 27=.int .i64 2:=t;rw[m]at v;obtain⟨d,H⟩:∃x,l 6=x:=⟨_,rfl⟩;rw[H]at v;clear e1 t A c j m
   repeat' first|simp only[go_sem,Cz, *]|apply bc<;>intro w
def Zp(a b:List Alt)(k:Nat):List Trm:=(a.getD (k/b.length) (mkA [])).ts++(b.getD (k%b.length) (mkA [])).ts
def dY(a b:List Alt):List (List Trm):=(List.range (a.length*b.length)).map (Zp a b)
def II{a b:List Alt}(d:i<a.length)(c:j<b.length):Zp a b (i*b.length+j)=a[i].ts++b[j].ts:=by
 unfold Zp;rw[show(i*b.length+j)/b.length=i by rw[gR,Nat.mul_add_div ow,Nat.div_eq_of_lt c];rfl,show(i*b.length+j)%b.length=j by rw[gR,Nat.mul_add_mod,Nat.mod_eq_of_lt c]];simp[d,c]
def VP(a b:List Alt):(dY a b).length=a.length*b.length:=by simp[dY]
def Bp{a b:List Alt}(d:yi 1 (qe a) x)(c:yi 1 (qe b) y)(g:Heap):zE prog 254 [x,y] g λr h'=>h'=g/\r=.fn (.func 337) [] [.iptr [x] 0,.iptr [y] 0]:=by
 refine zu zKv ?_;simp only[f254,zA];rcases d with⟨rfl,_⟩ | ⟨_,rfl⟩
 ·rcases c with⟨rfl,_⟩ | ⟨_,rfl⟩
  ·exact au
  ·exact au
 ·rcases c with⟨rfl,_⟩ | ⟨_,rfl⟩
  ·exact au
  ·exact au
def GK{a b:List Alt}(C:yi 1 (qe a) x)(D:yi 1 (qe b) y)(N:∀q∈a,q.Ok)(O:∀q∈b,q.Ok)(a2:a.length<=4096)(a3:b.length<=4096){Y:Nat->(Nat->Prop)->Heap->Prop}(E:Yld prog id (a.length*b.length) (λk=>[(mkA (Zp a b k)).d]) Y λ_ _=>False){w:Heap}(hY:Y 0 S w):
  zE prog 337 [.yld id,.iptr [x] 0,.iptr [y] 0] w λ_ h'=>∃S',But S w h'/\Y (a.length*b.length) S' h':=by
 have ak:=tn C;have a0:=tn D;obtain⟨x1,x2,_⟩:=yP C;obtain⟨y1,y2,_⟩:=yP D;refine zu zLO ?_;simp only[f337,zA]
 repeat' first|simp only[go_sem, *]|apply bc<;>intro Q
 refine zd (λi fr h'=>fr 0=.yld id/\fr 2=.iptr [y] 0/\fr 8=x/\fr 9=.int .i64 (a.length:Int)/\fr 10=.int .i64 (i:Int)/\∃S',(∀j,S' j->S j\/w.next<=j)/\But S w h'/\Y (i*b.length) S' h') a.length ow ?_ ?_ ?_
 ·have H:∃S',(∀j,S' j->S j\/w.next<=j)/\But S w w/\Y (0*b.length) S' w:=⟨S,λj B=>.inl B,But.refl S w,by rw[sZ];exact hY⟩;simp only[go_sem,zT,zV,zI];exact H
 ·rintro i fr h1 m e1 ew ⟨I,J,K,L,z,M⟩;have a1:=ox C m;have u:=N _ (zH m);have A:=λj (B:j<b.length)=>II m B;generalize a[i]=p at *
  obtain⟨R,p2,_⟩:=yP u.sl
  repeat' first|simp only[go_sem, *]|apply bc<;>intro Q
  refine qx (λj fr h'=>fr 0=.yld id/\fr 2=.iptr [y] 0/\fr 8=x/\fr 9=.int .i64 (a.length:Int)/\fr 10=.int .i64 (i:Int)/\fr 5=p.d/\fr 14=y/\fr 15=.int .i64 (b.length:Int)/\fr 16=.int .i64 (j:Int)/\∃S',(∀j,S' j->S j\/w.next<=j)/\But S w h'/\Y (i*b.length+j) S' h') b.length ?_ ?_
  ·simp only[go_sem,zT,zV,zI];exact⟨I,J,K,L,z,M⟩
  clear M;rintro j W l B ⟨g0,g2,g8,g9,X,g5,Z,ad,ag,S',f,c,e⟩;by_cases g:j<b.length
  ·have e2:decide ((j:Int)<(b.length:Int))=true:=zS ow;have V:IntKind.i64.wrap ((j:Int)+1)=((j+1:Nat):Int):=qR (by unfold lim;omega);have b1:=ox D g;have v:=O _ (zH g);have o:=A j g;have hk:i*b.length+j<a.length*b.length:=by
    have:i*b.length+b.length<=a.length*b.length:=by rw[<-qf];exact yv _ m
    omega
   have s:=E.go (i*b.length+j) S' l hk e;simp only[o]at s;generalize b[j]=q at *
   obtain⟨T,q2,_⟩:=yP v.sl;have F:=Kt u v l;have ai:∀nid:Nat,yB prog false nid 44 2 [(0,p.d),(1,q.d)] l=some (.sl 1 [[p.d],[q.d]] .full,l):=λnid=>by
    have:=WI (P:=prog) (nid:=nid) (h:=l) (x:=p.d) (y:=q.d) uV fU ue rfl rfl ow ow p2 (by rw[R];rfl) q2 (by rw[T];rfl);rw[R,T]at this;exact this
   have a4:(mkA (p.ts++q.ts)).d.notTuple=true:=rfl;clear u v A o E C D N O
   repeat' first|simp only[go_sem, *]|apply bc<;>intro Q|(refine zE.mono F ?_;rintro r h ⟨hq,rfl⟩)
   subst hq;refine s.mono ?_;rintro r h3 ⟨U,k1,k2,k3⟩;rcases k3 with⟨rfl,k3⟩ | ⟨rfl,k3⟩
   ·have n:∃S',(∀j,S' j->S j\/w.next<=j)/\But S w h3/\Y (i*b.length+(j+1)) S' h3:=⟨U,λi' G=>by
     rcases k1 i' G with q|q
     ·exact f _ q
     ·exact .inr (by have:=c.1;omega),c.trans k2 f,k3⟩
    clear f c e k1 k2 k3 s;exact au
   ·exact k3.elim
  ·have e2:decide ((j:Int)<(b.length:Int))=false:=zP ow;have t:j=b.length:=ow;have n:∃S',(∀j,S' j->S j\/w.next<=j)/\But S w l/\Y ((i+1)*b.length) S' l:=⟨S',f,c,by rw[qf,<-t];rw[t]at e⊢;exact e⟩;clear f c e E t;exact au
 ·rintro fr l e1 ⟨I,J,K,L,z,S',f,c,e⟩;have n:∃S',But S w l/\Y (a.length*b.length) S' l:=⟨S',c,e⟩;clear f c e E;exact au
def Np(l:List (List Trm)):∀c∈qe (l.map mkA),wr c:=λc a=>by
 obtain⟨y,b,rfl⟩:=zM.1 a;obtain⟨z,_,rfl⟩:=zM.1 b;exact bd z
theorem Ts{a b:List Alt}(hx:yi 1 (qe a) x)(hy:yi 1 (qe b) y)(ha:∀q∈a,q.Ok)(hb:∀q∈b,q.Ok)(O:a.length<=256)(R:b.length<=256)(g:Heap):
  zE prog 336 [.nilsl,.fn (.func 337) [] [.iptr [x] 0,.iptr [y] 0]] g λr h'=>h'=g/\Fin 1 (qe ((dY a b).map mkA)) r:=by
 refine xU kr λad=>xS ?_;refine xP λQ hQ=> ?_;have I:(dY a b).length=a.length*b.length:=VP a b;have hm:a.length*b.length<=65536:=zf (kE O R) ow;obtain⟨n,o⟩:∃n,qe ((dY a b).map mkA)=n:=⟨_,rfl⟩;have X:n.length=a.length*b.length:=by rw[<-o,qC,zG,I]
 have W:∀k,k<a.length*b.length->n[k]? =some [(mkA (Zp a b k)).d]:=λk N=>by
  rw[<-o];simp[qe,dY,N]
 have V:∀c∈n,wr c:=by rw[<-o];exact Np _
 rw[o]at hQ;refine zu zLN ?_;simp only[f336,zA];simp only[go_sem, *];simp only[za];generalize H:LRec.mk _ _ _ _ _ _ _=L;have yl:Yld prog (g.next+1) (a.length*b.length) (λk=>[(mkA (Zp a b k)).d]) (BO g.next 1 L n) (λ_ _=>False):=by
  refine⟨λk S h y=>y.here,λk S h h' y hn N=>y.loc hn N,λS h hz=>hz.elim,λS h h' hz=>hz.elim,λi S h3 hi Z=> ?_⟩;have hc:=W i hi;generalize U:(mkA (Zp a b i)).d=m at *
  have T:m.cells= [m]/\m.notTuple=true/\m.flat=true:=by rw[<-U];exact⟨rfl,rfl,rfl⟩
  obtain⟨m1,m2,m3⟩:=T;have v:=λnid h=>cQ m nid h m1 m2 m3;obtain⟨g1,t,d,G,u,s⟩:=Z;subst H;refine uS.round (g:=Dn) mix t rfl kr kr kr ?_;simp only[go_sem];refine⟨t,?_⟩;generalize hB:LRec.mk .busy _ _ _ _ _ _=B;generalize f:Heap.set h3 (g.next+1) (.loop B)=h5;have C:h5.at' g.next=some (.row [d]):=by rw[<-f,zY ow];exact G
  have a3:h5.at' (g.next+1)=some (.loop B):=by rw[<-f];simp[Heap.set]
  have a4:h5.next=h3.next:=by rw[<-f,ym]
  have D:rY h5 1 (n.take i) d:=u.loc ow λj l=>by
   have:=u.tok l;rw[<-f,zY (λe=>by subst e;rw[t]at this;cases this.2)]
  simp only[go_sem,C,v];have A:(n.take i).length=i:=by rw[yR];omega
  refine D.app2 uV po ue ow (by simp) (by simp) (by rw[A,tU];unfold lim;simp;omega) (by rw[A];unfold lim;simp;omega) ?_;intro F h6 b1 b2 E b4 b5 b6;have c1:h6.at' g.next=some (.row [d]):=by
   rw[E _ ow λz=> ?_]
   ·exact C
   ·have:=(D.tok z).2;rw[C]at this;cases this
  have Y:=yU (P:=prog) (off:=0) c1 aC (by simp) b5 b6;simp only[go_sem,Y,t9];have c2:(h6.set g.next (.row [F])).at' (g.next+1)=some (.loop B):=by
   rw[zY ow,E _ ow λz=> ?_]
   ·exact a3
   ·have:=(D.tok z).2;rw[a3]at this;cases this
  refine sG c2 ⟨λj=>j=g.next\/j=g.next+1\/sr F j,λj l=> ?_,⟨by simp only[go_sem];omega,λj l J=> ?_⟩,.inl ⟨rfl,by simp only[go_sem];omega,?_,F,?_,?_,λj=>Iff.rfl⟩⟩
  ·rcases l with rfl|rfl|l
   ·exact .inl ((s _).2 (.inl rfl))
   ·exact .inl ((s _).2 (.inr (.inl rfl)))
   ·exact .inr (by have:=b4 j l;omega)
  ·have n1:j≠g.next:=λe=>J ((s j).2 (.inl e));have n2:j≠g.next+1:=λe=>J ((s j).2 (.inr (.inl e)));rw[zY n2,zY n1,E j ow (λz=>J ((s j).2 (.inr (.inr z)))),<-f,zY n2]
  ·rw[zW,<-hB]
  ·rw[zY ow,zW]
  ·have:n.take (i+1)=n.take i++ [[m]]:=by rw[List.take_add_one,hc];rfl
   rw[this];refine b1.loc (zD _) λj l=> ?_;have:=b4 j l;rw[zY ow,zY ow]
 refine(GK hx hy ha hb ow ow yl (S:=λi=>i=g.next\/i=g.next+1) (w:=(g.new g.next (.row [.nilsl])).new (g.next+1) (.loop L)) ?_).mono ?_
 ·refine⟨?_,z8 _ _ _,.nilsl,by rw[zi ow,z8],.inl ⟨rfl,rfl⟩,λj=>by simp[sr]⟩;rw[qL _ (by rw[za];exact zD _)];omega
 rintro r h2 ⟨S',M,K⟩;obtain⟨g1,t,d,G,u,s⟩:=K;rw[<-X,z6]at u;refine⟨L,t,?_,?_⟩
 ·rw[<-H];intro e;cases e
 have hp:L.pending=none:=by rw[<-H]
 rw[hp,pG];have k1:(h2.del (g.next+1)).at' g.next=some (.row [d]):=by rw[wT ow];exact G
 have p:=u.fin V;have hq:=hQ d (h2.del (g.next+1)) ⟨Ext.del (Ext.of_but (((Ext.refl g).new (zD _) _).new ow _) M λj l=>by rcases l with rfl|rfl<;>omega) ow,qF (yC _) _ p.1,p.2⟩;exact au
def LA{a b:List Alt}(k:yi 1 (qe a) x)(l:yi 1 (qe b) y)(f:∀q∈a,q.Ok)(i:∀q∈b,q.Ok)(c:a.length<=256)(d:b.length<=256)(g:Heap):
  zE prog 253 [.fn (.func 337) [] [.iptr [x] 0,.iptr [y] 0]] g λr h'=>h'=g/\Fin 1 (qe ((dY a b).map mkA)) r:=by
 have h1:=Ts k l f i c d;refine xP λQ e=> ?_;refine zu zKu ?_;simp only[f253,zA];simp only[go_sem, *];refine(h1 _).mono ?_;rintro r h ⟨j,hf⟩;subst j;have:=e r h ⟨rfl,hf⟩;exact au
def QJ(l:List (List Trm)):D:=.tuple (if l.length>64 then [.nilsl,.int .i64 10]else [.sl 1 (qe (l.map mkA)) .no,.int .i64 0])
def Q8{l:List (List Trm)}(e:l.length<=1048576)(g:Heap):
  zE prog 251 [.sl 1 (qe (l.map mkA)) .no] g λr h'=>h'=g/\r=QJ l:=by
 have a:=tn (l:=l.map mkA) (yi.mk .no);rw[zG]at a;refine xP λQ d=> ?_;have b:=d (QJ l) g ⟨rfl,rfl⟩;unfold QJ at b;refine zu zKs ?_;simp only[f251,zA];by_cases c:l.length>64
 ·rw[ip c]at b;have e1:decide ((l.length:Int)>64)=true:=zS ow;exact au
 ·rw[iq c]at b;have e1:decide ((l.length:Int)>64)=false:=zP ow;exact au
def XZ(l:List Lic):∀x∈jc l,x.length=4:=λx a=>by
 obtain⟨y,_,rfl⟩:=zM.1 a;rfl
def GJ(x y:Lic)(g:Heap):zE prog 328 [.agg x.cells,.agg y.cells] g λr h'=>h'=g/\r=.int .i64 (tC x.ver y.ver):=by
 have h1:=Yr x.ver y.ver;refine zu zLG ?_;simp only[f328,zA];simp only[Lic.cells]
 repeat' first|simp only[go_sem, *]|apply bc<;>intro a|refine zE.use (h1 _) ?_
def B7{l:List Lic}(h0:l≠[])(s:l.length<=1048576)(a:g.at' id=some (.row (jc l).flatten)):
  zE prog 327 [.rs id 4 0 l.length,.fn (.func 328) [] []] g λr h'=>r=.tuple []/\∃ys:List Lic,ys.Perm l/\h'=g.set id (.row (jc ys).flatten):=by
 have:=zE.of_sortK (P:=prog) (f:=327) (cmp:=328) (k:=4) (cells:=Lic.cells) (xs:=l) (id:=id) (pre:=[]) (post:=[]) (h:=g) (cf:=λx y=>tC x.ver y.ver) (mid:=[]) (midV:=[]) (λM ρ vs h=>by simpa [wJ]using h) h0 ow (λ_ _=>rfl) kr (enters_of func328 kr rfl) (by simpa [jc]using a) (ZE.key Lic.ver).swo ow
  (λx _ y _ H=>GJ x y H) (λα _ enc h1 e cf j g cb b off cap d w o n i m c q=>AnyQ.slices_SortFunc Tryz.sortLic 4 (isAgg117) (sizeOf117) enc h1 e cf j g cb b off cap d w o n i m c)
 refine this.mono λr h' ⟨e1,ys,p,c,e2⟩=>⟨e1,ys,p,?_⟩;rw[e2];simp[jc]
def oS(x y:Lic):Bool:=y.fam==x.fam&&decide (y.ver>=x.ver)
def gi(c:Cat)(x:Lic):List (List UInt8):=(c.ls.filter (oS x)).map Lic.name
def RW{k:List UInt8}{x:Lic}(h:mv c k=some x):x∈c.ls:=by
 unfold mv at h;split at h
 ·cases h
 ·split at h
  ·exact zg h
  ·cases h
def Rq{x:Lic}(h:x∈c.ls):c.ls.filter (oS x)≠[]:=λe=>by
 have:x∈c.ls.filter (oS x):=wZ.2 ⟨h,by simp[oS]⟩;rw[e]at this;cases this
def zAQ(x:Lic)(nid:Nat)(h:Heap):yB prog false nid 22 1 [(0,.agg [.str x.name,.str x.fam,.int .i64 x.ver,.str x.text])] h=some (.sl 4 [x.cells] .full,h):=
 qW (P:=prog) (x:=.agg [.str x.name,.str x.fam,.int .i64 x.ver,.str x.text]) bJ WR jr rfl rfl ow ow rfl rfl
theorem Bl(n:uc c d)(hs:c.Sm){k:List UInt8}{x:Lic}(hf:mv c k=some x)(g:Heap):
  zE prog 250 [d,.str k] g λr h'=>h'=g/\∃ns,ns.Perm (gi c x)/\r=.tuple [.sl 1 (wn ns) .no,.int .i64 0]:=by
 have F:=Kv n hs k;have S:gf c k=.tuple [.agg [.str x.name,.str x.fam,.int .i64 x.ver,.str x.text],.bool true]:=by unfold gf;rw[hf]
 rw[S]at F;clear S;refine xU kr λbb=>xS ?_;refine xP λQ hQ=> ?_;have ad:=RW hf;have s1:=hs.ls.1;obtain⟨a,b,e,p,rfl,ha,hb,he,hp⟩:=n;have A:=rS ha;have Y:=hA x;obtain⟨G0,N,r0,E0,n0⟩:∃G,g.new g.next (.row [.str x.name,.str x.fam,.int .i64 x.ver,.str x.text])=G/\G.at' g.next=some (.row [.str x.name,.str x.fam,.int .i64 x.ver,.str x.text])/\Ext g G/\g.next<G.next:=⟨_,rfl,z8 _ _ _,(Ext.refl g).new (zD _) _,by rw[za];omega⟩;refine zu zKr ?_;simp only[f250,zA]
 repeat' first|simp only[go_sem, *]|apply bc<;>intro n|(refine zE.mono (F _) ?_;rintro r h ⟨hq,rfl⟩)
 clear Y F hb he hp;refine zd (λi fr h=>∃s,fr 6=.ptr g.next 0/\fr 23=a/\fr 24=.int .i64 (c.ls.length:Int)/\fr 25=.int .i64 (i:Int)/\fr 8=s/\Yi G0 h 4 (jc ((c.ls.take i).filter (oS x))) s) c.ls.length ow ?_ ?_ ?_
 ·have a8:=Yi.start (Ext.refl G0) 4;simp only[go_sem,zT,zV,zI];exact⟨_,rfl,a8⟩
 ·rintro i fr l z ec ew ⟨s,f6,ai,ak,a0,f8,j⟩;have a1:=pu ha z;have w:(c.ls.take (i+1)).filter (oS x)=(c.ls.take i).filter (oS x)++ [c.ls[i]].filter (oS x):=by rw[zQ z,oG]
  have I:((c.ls.take i).filter (oS x)).length<=i:=zf (uA _ _) (by rw[yR];omega);rw[w];clear w;generalize c.ls[i]=y at *
  generalize(c.ls.take i).filter (oS x)=pre at *
  have a9:=hA y l l.next;have r1:(l.new l.next (.row [.str y.name,.str y.fam,.int .i64 y.ver,.str y.text])).at' g.next=some (.row [.str x.name,.str x.fam,.int .i64 x.ver,.str x.text]):=by
   rw[zi (by have:=j.1.1;omega),j.1.2 _ n0];exact r0
  have r2:(l.new l.next (.row [.str y.name,.str y.fam,.int .i64 y.ver,.str y.text])).at' l.next=some (.row [.str y.name,.str y.fam,.int .i64 y.ver,.str y.text]):=z8 _ _ _;have m:=j.ext ((Ext.refl l).new (zD _) (.row [.str y.name,.str y.fam,.int .i64 y.ver,.str y.text]));simp only[Lic.cells]at a1;have W:=zAQ y;generalize l.new l.next (.row [.str y.name,.str y.fam,.int .i64 y.ver,.str y.text])=H at *
  obtain⟨d',G,E,v,K⟩:=m.app (P:=prog) (ys:=jc [y]) (tk:=.full) bJ Fg jr ow (λcs=>pH underlying117) (XZ _) (XZ _) (by simp[jc]) (by rw[mz,M5];unfold lim;simp[jc];omega) (by rw[mz];unfold lim;simp[jc];omega);have R:jc [y]= [y.cells]:=rfl;rw[R]at E K v;have U:jc (pre++ [y])=jc pre++ [y.cells]:=by simp[jc]
  rw[<-U]at v;clear j U R hQ A ha E0 N r0;cases q1:(y.fam==x.fam)with
  |false=>
   have f:pre++ [y].filter (oS x)=pre:=by simp[oS,q1]
   rw[f];clear f E K v
   repeat' first|simp only[go_sem, *]|apply bc<;>intro n
   exact⟨_,rfl,m⟩
  |true=>
   cases q2:decide (y.ver>=x.ver)with
   |false=>
    have f:pre++ [y].filter (oS x)=pre:=by simp only[su,oS,q1,q2];simp
    rw[f];clear f E K v
    repeat' first|simp only[go_sem, *]|apply bc<;>intro n
    exact⟨_,rfl,m⟩
   |true=>
    have f:pre++ [y].filter (oS x)=pre++ [y]:=by simp only[su,oS,q1,q2];simp
    rw[f];clear f m
    repeat' first|simp only[go_sem, *]|apply bc<;>intro n
    exact⟨_,rfl,v⟩
 ·rintro fr l ec ⟨s,f6,ai,ak,a0,f8,j⟩;rw[z6]at j;have J:=Rq ad;have a5:(c.ls.filter (oS x)).length<=1048576:=zf (uA _ _) s1;have hS:gi c x=(c.ls.filter (oS x)).map Lic.name:=rfl;rw[hS]at hQ;clear hS;generalize c.ls.filter (oS x)=L at *
  obtain⟨hx,n⟩:=j;rcases n with⟨_,e⟩ | ⟨id,rfl,C,hid,T,_⟩
  ·exact absurd (by simpa [jc]using e) J
  rw[mz]at f8;have X:=B7 J a5 C;have O:∀(ys:List Lic) r h',ys.Perm L->Ext g h'->below g.next (qD r)->Fin 1 (wn (ys.map Lic.name)) (qD r)->Q (.tuple [r,.int .i64 0]) h':=λys r h' q0 q1 q2 q3=>by
   refine hQ _ _ ⟨q1,?_,?_⟩
   ·simp only[qD,qY,below,qO];exact⟨q2,trivial,trivial⟩
   ·refine⟨ys.map Lic.name,q0.map _,?_⟩;rcases q3 with⟨_,e⟩ |e
    ·have:ys= []:=by simpa [wn]using e
     subst this;exact absurd (cr.1 q0) J
    ·simp only[qD,qY,e]
  clear hQ ad A ha;have Z:g.next<=id:=zf E0.1 hid
  repeat' first|simp only[go_sem, *]|apply bc<;>intro n
  refine X.mono ?_;rintro r h3 ⟨rfl,ys,hp,rfl⟩;have ba:=hp.length_eq;have r1:(l.set id (.row (jc ys).flatten)).at' id=some (.row (jc ys).flatten):=zW _ _ _;have M:Ext g (l.set id (.row (jc ys).flatten)):=(E0.trans hx).set Z _;have u:id<(l.set id (.row (jc ys).flatten)).next:=T;generalize l.set id (.row (jc ys).flatten)=H at *
  have bk:=λ(h:Heap)=>nM (P:=prog) (t:=22) (sz:=4) (id:=id) (off:=0) (len:=L.length) (h:=h) underlying22;have D:=λr h'=>O ys r h' hp;clear O X C hx E0 N r0
  repeat' first|simp only[go_sem, *]|apply bc<;>intro n
  refine zd (λi fr h=>∃o,fr 48=.rs id 4 0 L.length/\fr 49=.int .i64 (L.length:Int)/\fr 50=.int .i64 (i:Int)/\fr 11=o/\Own H h 1 (wn ((ys.take i).map Lic.name)) o) L.length ow ?_ ?_ ?_
  ·have hs:=Own.start (Ext.refl H) 1;simp only[go_sem,zT,zV,zI];exact⟨_,rfl,hs⟩
  ·rintro i fr h3 z ec ew ⟨o,a2,a3,a4,ag,j⟩;have B:i<ys.length:=ow;have a1:=qj (P:=prog) (sz:=4) (id:=id) bJ jr (k:=.i64) z;have a7:h3.at' id=some (.row (jc ys).flatten):=by rw[j.1.2 _ u];exact r1
   have p1:=nN (XZ ys) ow (N7 B);have w:(ys.take (i+1)).map Lic.name=(ys.take i).map Lic.name++ [ys[i].name]:=by rw[zQ B,wH];rfl
   have I:((ys.take i).map Lic.name).length=i:=by rw[zG,yR];omega
   rw[w];clear w;generalize ys[i]=y at *
   generalize(ys.take i).map Lic.name=pre at *
   simp only[Lic.cells]at p1;have a9:=hA y h3 h3.next;have m:=j.ext ((Ext.refl h3).new (zD _) (.row [.str y.name,.str y.fam,.int .i64 y.ver,.str y.text]));have r2:(h3.new h3.next (.row [.str y.name,.str y.fam,.int .i64 y.ver,.str y.text])).at' h3.next=some (.row [.str y.name,.str y.fam,.int .i64 y.ver,.str y.text]):=z8 _ _ _;have W:=gu y.name;generalize h3.new h3.next (.row [.str y.name,.str y.fam,.int .i64 y.ver,.str y.text])=h4 at *
   clear D j r1 M u
   repeat' first|simp only[go_sem, *]|apply bc<;>intro n
   refine m.appH (ys:=wn [y.name]) uK aU pz ow TD (by simp[wn]) (by rw[qw,oP,I];unfold lim;simp[wn];omega) (by rw[qw,I];unfold lim;simp[wn];omega) λd' h' V=> ?_;have a6:Own H h' 1 (wn (pre++ [y.name])) d':=by
    have:wn (pre++ [y.name])=wn pre++wn [y.name]:=by simp[wn]
    rw[this];exact V
   clear m V
   repeat' first|simp only[go_sem, *]|apply bc<;>intro n
   exact⟨_,rfl,a6⟩
  ·rintro fr h3 ec ⟨o,a2,a3,a4,ag,j⟩;rw[<-ba,z6]at j;have q:=j.2.1.fin uo;have hq:=D o h3 (M.trans j.1) (qF (yC _) _ q.1) q.2;clear D q j;exact au
def szd(l:List (List Trm)):Option (List (List Trm)):=if l.length>64 then none else some l
def gv(a b:List (List Trm)):List (List Trm):=dY (a.map mkA) (b.map mkA)
mutual
def bZ(c:Cat):Ex->Option (List (List Trm))
 |.mk k n x l _=>if(k==0)=true then some [[⟨n,x⟩]]else if(k==1)=true then(match mv c n with
   |none=>none
   |some y=>szd (uL ((gi c y).map λs=>[⟨s,[]⟩])))
  else match cO c k l true []with
   |none=>none
   |some out=>szd (uL out)
def cO(c:Cat)(k:Int):List Ex->Bool->List (List Trm)->Option (List (List Trm))
 | [],_,out=>some out
 |e::es,first,out=>match bZ c e with
  |none=>none
  |some l=>if(k==3)=true then cO c k es false (out++l)else if first=true then cO c k es false l else match szd (uL (gv out l))with
   |none=>none
   |some o=>cO c k es false o
end
def Ex.Fit(c:Cat)(e:Ex):Prop:=∀x∈e.pre,x.err=0/\P3 c x=0
theorem MP:∀{l:List Ex}{e x:Ex},e∈l->x∈e.pre->x∈YY l
 |a::l,e,x,h,b=>by
  simp only[YY];rcases zw.1 h with rfl|h
  ·exact tK _ b
  ·exact rX _ (MP h b)
def Ex.Fit.kid{e k:Ex}(h:e.Fit c)(a:k∈e.kids):k.Fit c:=λx b=>by
 obtain⟨g,n,f,l,d⟩:=e;exact h x (by simp only[Ex.pre];exact zt _ (MP a b))
def Ex.Fit.self(h:e.Fit c):e.err=0/\P3 c e=0:=by
 obtain⟨b,n,a,l,d⟩:=e;exact h _ (by simp only[Ex.pre];exact qG)
theorem fo{f:Nat->Int} :∀{n:Nat},j9 f n=0->∀i,i<n->f i=0
 |n+1,h,i,a=>by
  simp only[j9]at h;split at h
  ·rename_i q;rcases z7.1 a with g|rfl
   ·exact fo (by simpa using q) i g
   ·exact h
  ·rename_i q;exact absurd (by simpa using h) q
def Ns(h:o9 c e=0):pJ c=0/\e.size<=64/\e.Fit c:=by
 unfold o9 at h;split at h
 ·exact absurd h (by decide)
 rename_i j;split at h
 ·rename_i q;rw[h]at q;exact absurd q (by decide)
 rename_i k;have a:gg e=0:=by simpa using k
 unfold gg at a;split at a
 ·exact absurd a (by decide)
 rename_i l;split at a
 ·exact absurd a (by decide)
 refine⟨by simpa using j,by simp at l;omega,λx g=> ?_⟩;obtain⟨i,b,rfl⟩:=yD.1 g;rw[e.pre_len]at b;have h1:=fo a i b;have d:=fo h i b;have f:e.pre.getD i e=e.pre[i]'(by rw[e.pre_len];exact b):=by rw[zC,zB];rfl
 unfold Ex.errAt at h1;unfold Ex.unk at d;rw[f]at h1 d;exact⟨h1,d⟩
def Nr{k:Int}{n x:List UInt8}{l:List Ex}(h:(Ex.mk k n x l d).Fit c):((k=0\/k=1)/\l= []/\(k=1->x= [])/\∃y,mv c n=some y)\/((k=2\/k=3)/\2<=l.length):=by
 obtain⟨h1,f⟩:=h.self;replace h1:cP k n x l.length=0:=h1;unfold cP at h1;by_cases q:((k==0)||(k==1))=true
 ·left;rw[ip q]at h1;by_cases a:(decide ((l.length:Int)>0)||((k==1)&& !(x== [])))=true
  ·rw[ip a]at h1;exact absurd h1 (by decide)
  rw[iq a]at h1;by_cases b:(!nC n||(!(x== [])&& !nC x))=true
  ·rw[ip b]at h1;exact absurd h1 (by decide)
  simp only[qB,qN,zO,zF,qM,Xk,not_and,rz,yr]at q a b;refine⟨q,yM.1 ow,λe=>by simpa using a.2 e,?_⟩;replace f:(if(!(n== [])&& !Z9 c n x)=true then(7:Int)else 0)=0:=f
  by_cases i:(!(n== [])&& !Z9 c n x)=true
  ·rw[ip i]at f;exact absurd f (by decide)
  have m:¬(n== [])=true:=λe=>by
   have:n= []:=by simpa using e
   subst this;exact absurd b.1 (by decide)
  have g:Z9 c n x=true:=by
   cases j:Z9 c n x with
   |true=>rfl
   |false=>exact absurd (by simp[j,m]) i
  unfold Z9 at g;simp only[zF]at g;exact uC.1 g.1
 ·rw[iq q]at h1;by_cases a:((k==2)||(k==3))=true
  ·rw[ip a]at h1;right;by_cases b:(decide ((l.length:Int)<2)|| !(n== [])|| !(x== []))=true
   ·rw[ip b]at h1;exact absurd h1 (by decide)
   simp only[qB,qN,zO,qM,Xk]at a b;exact⟨a,by omega⟩
  ·rw[iq a]at h1;exact absurd h1 (by decide)
theorem ME{l:List (List Trm)}(h:l≠[]):∀n,0<n->n<=l.length->jh l n≠[]
 |1,_,a=>by
  rw[jh,zB ow];simp[jh,gk]
 |n+2,_,a=>by
  have b:=ME h (n+1) ow ow;rw[jh,zB ow];simp only[gk];split
  ·exact b
  ·simp
def Xh{l:List (List Trm)}(h:l≠[]):uL l≠[]:=by
 have a:(pT l).length=l.length:=by rw[pT,(sH _).length_eq,zG]
 have b:0<l.length:=yA.2 h;exact ME (λe=>by rw[e]at a;simp at a;omega) _ ow (zD _)
def gp(l:List (List Trm)):(uL l).length<=l.length:=by
 have a:(pT l).length=l.length:=by rw[pT,(sH _).length_eq,zG]
 have:=Xg (l:=pT l) (pT l).length;rw[a]at this;unfold uL;rw[a];exact this
def Ul{l m:List (List Trm)}(h:l.Perm m):uL l=uL m:=by
 unfold uL pT;rw[Iw Xs Tn (h.map n8)]
def Yd{l m:List (List Trm)}(h:szd l=some m):m=l/\l.length<=64:=by
 unfold szd at h;split at h
 ·cases h
 ·cases h;exact⟨rfl,by omega⟩
structure AltsOk(n:Nat)(l:List (List Trm)):Prop where
 ne:l≠[]
 ts:∀t∈l,t≠[]/\t.length<=n
def AltsOk.mono{n m:Nat}{l:List (List Trm)}(h:AltsOk n l)(b:n<=m):AltsOk m l:=⟨h.ne,λt a=>⟨(h.ts t a).1,zf (h.ts t a).2 b⟩⟩
def AltsOk.min{l:List (List Trm)}(h:AltsOk n l):AltsOk n (uL l):=⟨Xh h.ne,λt b=>by
 obtain⟨y,c,rfl⟩:=Rx b;obtain⟨h1,a⟩:=h.ts y c;exact⟨MJ h1,zf (R2 _) a⟩⟩
def AltsOk.app{l m:List (List Trm)}(h:∀t∈l,t≠[]/\t.length<=n)(k:AltsOk n m):AltsOk n (l++m):=⟨λe=>k.ne (hZ.1 e).2,λt a=>by
 rcases yp.1 a with q|q
 ·exact h t q
 ·exact k.ts t q⟩
def Lk{a b:List (List Trm)}{t:List Trm}(h:t∈gv a b):∃x∈a,∃y∈b,t=x++y:=by
 unfold gv dY at h;obtain⟨k,c,rfl⟩:=zM.1 h;rw[qT,zG,zG]at c;have d:0<b.length:=by
  rcases lm b.length with e|e
  ·rw[e,Nat.mul_zero]at c;omega
  ·exact e
 have h1:k/b.length<a.length:=by rw[nV d];exact c
 have f:k%b.length<b.length:=aX _ d;refine⟨a[k/b.length],zH _,b[k%b.length],zH _,?_⟩;simp[Zp,h1,f,mkA]
def VQ(a b:List (List Trm)):(gv a b).length=a.length*b.length:=by rw[gv,VP,zG,zG]
def AltsOk.pairs{n m:Nat}{a b:List (List Trm)}(h:AltsOk n a)(k:AltsOk m b):AltsOk (n+m) (gv a b):=by
 refine⟨λe=> ?_,λt d=> ?_⟩
 ·have:=VQ a b;rw[e]at this;have h1:0<a.length:=yA.2 h.ne;have c:0<b.length:=yA.2 k.ne;have:=Yh h1 c;simp at *;omega
 ·obtain⟨x,f,y,g,rfl⟩:=Lk d;have h1:=h.ts x f;have c:=k.ts y g;exact⟨λe=>h1.1 (hZ.1 e).1,by rw[zR];omega⟩
def XF{n:List UInt8}{y:Lic}(h:mv c n=some y):gi c y≠[]:=λe=>Rq (RW h) (wv.1 e)
def PU:∀n:Nat,(∀e:Ex,e.size<=n->e.Fit c->∀l,bZ c e=some l->l.length<=64/\AltsOk e.size l)/\
  ∀(k:Int)(a:List Ex),qZ a<=n->(∀e∈a,e.Fit c)->∀(m:Nat)(first:Bool)(out R:List (List Trm)),(∀t∈out,t≠[]/\t.length<=m)->(first=false->out≠[])->(a= []->out≠[])->cO c k a first out=some R->AltsOk (m+qZ a) R/\R.length<=out.length+64*a.length:=by
 intro n
 induction n with
 |zero=>
  refine⟨λe h=> ?_,λk a h hf m first out R h1 B h3 b=> ?_⟩
  ·cases e;simp only[Ex.size]at h;omega
  ·cases a with
   |nil=>simp only[cO]at b;cases b;exact⟨⟨h3 rfl,by simpa [qZ]using h1⟩,by simp⟩
   |cons e l=>cases e;simp only[qZ,Ex.size]at h;omega
 |succ n z=>
  have key:∀e:Ex,e.size<=n+1->e.Fit c->∀l,bZ c e=some l->l.length<=64/\AltsOk e.size l:=λe h hf l f=>by
   obtain⟨k,M,x,a,d⟩:=e;simp only[Ex.size]at h⊢;have G:=Nr hf;rw[bZ]at f;split at f
   ·cases f;exact⟨by simp,by simp,λt p=>by cases ze.1 p;exact⟨by simp,by simp⟩⟩
   split at f
   ·split at f
    ·cases f
    ·rename_i y J;obtain⟨rfl,r⟩:=Yd f;refine⟨r,AltsOk.min ⟨by simpa using XF J,λt p=> ?_⟩⟩;obtain⟨s,_,rfl⟩:=zM.1 p;exact⟨by simp,by simp⟩
   ·rename_i K L;split at f
    ·cases f
    ·rename_i out w;obtain⟨rfl,r⟩:=Yd f;have A:2<=a.length:=by
      rcases G with⟨q,_⟩ | ⟨_,q⟩
      ·rcases q with rfl|rfl
       ·exact absurd rfl K
       ·exact absurd rfl L
      ·exact q
     have:=z.2 k a ow (λe F=>hf.kid F) 0 true [] out (λt p=>by cases p) (by simp) (λe=>by subst e;simp at A) w;exact⟨r,this.1.min.mono ow⟩
  refine⟨key,λk a h hf m first out R h1 B h3 b=> ?_⟩
  cases a with
  |nil=>simp only[cO]at b;cases b;exact⟨⟨h3 rfl,by simpa [qZ]using h1⟩,by simp⟩
  |cons e a=>
   have C:0<e.size:=by cases e;simp only[Ex.size];omega
   simp only[qZ]at h⊢;rw[cO]at b;split at b
   ·cases b
   ·rename_i l f;obtain⟨D,g⟩:=key e ow (hf e (by simp)) l f;have u:∀e∈a,e.Fit c:=λx I=>hf x (zt _ I);split at b
    ·have i:=AltsOk.app (n:=m+e.size) (λt p=>⟨(h1 t p).1,zf (h1 t p).2 ow⟩) (g.mono (show e.size<=m+e.size by omega));have:=z.2 k a ow u (m+e.size) false (out++l) R i.ts (λ_=>i.ne) (λ_=>i.ne) b;refine⟨this.1.mono ow,?_⟩;have q:=this.2;rw[zR]at q;simp only[zm];omega
    ·split at b
     ·have i:=g.mono (show e.size<=m+e.size by omega);have:=z.2 k a ow u (m+e.size) false l R i.ts (λ_=>i.ne) (λ_=>i.ne) b;refine⟨this.1.mono ow,?_⟩;have q:=this.2;simp only[zm];omega
     ·rename_i j;have v:out≠[]:=B (by simpa using j);split at b
      ·cases b
      ·rename_i o H;obtain⟨rfl,E⟩:=Yd H;have i:=(AltsOk.pairs ⟨v,h1⟩ g).min;have:=z.2 k a ow u (m+e.size) false _ R i.ts (λ_=>i.ne) (λ_=>i.ne) b;refine⟨this.1.mono ow,?_⟩;have q:=this.2;simp only[zm];omega
def Wd:Option (List (List Trm))->D
 |some l=>.tuple [.sl 1 (qe (l.map mkA)) .no,.int .i64 0]
 |none=>.tuple [.nilsl,.int .i64 10]
def ZM(l:List (List Trm)):QJ l=Wd (szd l):=by
 unfold QJ szd;split<;>rfl
def Vk(l:List (List Trm)):qD (.sl 1 (qe (l.map mkA)) .no)=.sl 1 (qe (l.map mkA)) .no/\below 0 (.sl 1 (qe (l.map mkA)) .no):=yj (Np l) .no
def jD(o:Option (List (List Trm)))(n:Nat):qD (Wd o)=Wd o/\below n (Wd o):=by
 cases o with
 |none=>exact⟨rfl,by simp[Wd,below,qO]⟩
 |some l=>
  obtain⟨h1,a⟩:=Vk l;refine⟨?_,?_⟩
  ·simp only[Wd,qD,qY]at h1⊢;rw[h1]
  ·simp only[Wd,below,qO];exact⟨qF (yC _) _ a,trivial,trivial⟩
def MK(s x:List UInt8):Alt:=⟨[⟨s,x⟩],.sl 2 [[.str s,.str x]] .full⟩
def zAN(s x:List UInt8):(MK s x).Ok:=⟨yi.mk .full,by simp[MK],by simp[MK]⟩
def zCF(s x:List UInt8):qd prog 197 [(0,.str s),(1,.str x)]=some (.agg [.str s,.str x]):=by simp[qd,nD,sW,ur,D.notTuple,D.cells,wo]
def zCE(s:List UInt8):qd prog 197 [(0,.str s)]=some (.agg [.str s,.str []]):=by simp[qd,nD,sW,ur,D.notTuple,D.cells,wo]
def IF(s x:List UInt8)(nid:Nat)(h:Heap):yB prog false nid 195 1 [(0,.agg [.str s,.str x])] h=some (.sl 2 [[.str s,.str x]] .full,h):=
 qW (P:=prog) (x:=.agg [.str s,.str x]) uF sW uq rfl rfl ow ow rfl rfl
def dM(c:Cat)(e:Ex):D:=Wd (bZ c e)
def LG(e:uc c d){n x:List UInt8}(g:Heap):
  zE prog 209 [d,.agg [.int .i64 0,.str n,.str x,y]] g λr h'=>h'=g/\r=Wd (some [[⟨n,x⟩]]):=by
 refine xU kr λa=>xS ?_;refine xP λQ b=> ?_;obtain⟨ca,cb,ce,cp,rfl,_,_,_,_⟩:=e;have h1:=zCF n x;have f:=IF n x;have h3:=λnid h=>cQ (.sl 2 [[.str n,.str x]] .full) nid h rfl rfl rfl;have i:=b (.tuple [.sl 1 [[.sl 2 [[.str n,.str x]] .full]] .full,.int .i64 0]) g ⟨Ext.refl g,by
  simp[qD,qY,p5,below,qO,oc],by simp[qD,qY,p5,Wd,qe,mkA,wt,Trm.cells]⟩
 refine zu Gz ?_;simp only[f209,zA];exact au
def LH(j:uc c d)(W:c.Sm){n x:List UInt8}{z:Lic}(hf:mv c n=some z)(g:Heap):
  zE prog 209 [d,.agg [.int .i64 1,.str n,.str x,y]] g λr h'=>h'=g/\r=Wd (szd (uL ((gi c z).map λs=>[⟨s,[]⟩]))):=by
 have w:=Bl j W hf;have ak:=W.ls.1;have p:=XF hf;have ag:(gi c z).length<=c.ls.length:=by rw[gi,zG];exact uA _ _
 refine xU kr λV=>xS ?_;refine xP λQ R=> ?_;obtain⟨ca,cb,ce,cp,rfl,_,_,_,_⟩:=j;have P:=Own.start (Ext.refl g) 1;have A:∀(b:List (List UInt8))(h:Heap),mC prog 45 (.sl 1 (wn b) .no) h=some (.int .i64 b.length):=λb h=>wh (yi.mk .no) h;have l:∀(b:List (List UInt8))(i:Nat)(U:i<b.length),yt prog 45 (.sl 1 (wn b) .no) (.int .i64 (i:Int))=some (.iptr [.str b[i]] 0):=λb i U=>rP (yi.mk .no) U;refine zu Gz ?_;simp only[f209,zA]
 repeat' first|simp only[go_sem, *]|apply bc<;>intro j
 refine(w _).mono ?_;rintro r h ⟨k,b,I,rfl⟩;subst k;have ai:b.length<=1048576:=by rw[I.length_eq];omega
 have G:b≠[]:=λe=>by subst e;exact p (cr.1 I)
 have ad:=A b;clear A w
 repeat' first|simp only[go_sem, *]|apply bc<;>intro j
 refine zd (λi fr O=>∃o,fr 35=.sl 1 (wn b) .no/\fr 36=.int .i64 (b.length:Int)/\fr 37=.int .i64 (i:Int)/\fr 6=o/\Own h O 1 (qe ((b.take i).map λs=>MK s [])) o) b.length ow ?_ ?_ ?_
 ·simp only[go_sem,zT,zV,zI];exact⟨_,rfl,P⟩
 ·rintro i fr O C Z ew ⟨o,K,L,N,f6,q⟩;have a1:=l b i C;have J:(b.take (i+1)).map (λs=>MK s [])=(b.take i).map (λs=>MK s [])++ [MK b[i] []]:=by rw[zQ C,wH];rfl
  have B:((b.take i).map λs=>MK s []).length=i:=by rw[zG,yR];omega
  rw[J];clear J R l I;generalize b[i]=s at *
  generalize(b.take i).map (λs=>MK s [])=pre at *
  have b1:=zCE s;have b2:=IF s [];have b3:=λnid h=>cQ (.sl 2 [[.str s,.str []]] .full) nid h rfl rfl rfl
  repeat' first|simp only[go_sem, *]|apply bc<;>intro j
  refine q.appH (ys:=qe [MK s []]) uV po ue ow (si _) (by simp[qe]) (by rw[qC,tU,B];unfold lim;simp[qe];omega) (by rw[qC,B];unfold lim;simp[qe];omega) λY h' H=> ?_;have S:Own h h' 1 (qe (pre++ [MK s []])) Y:=by
   have:qe (pre++ [MK s []])=qe pre++qe [MK s []]:=by simp[qe]
   rw[this];exact H
  clear q H
  repeat' first|simp only[go_sem, *]|apply bc<;>intro j
  exact⟨_,rfl,S⟩
 ·rintro fr O Z ⟨o,K,L,N,f6,q⟩;rw[z6]at q;have m:=Y1 q.isSl (by simpa using G) (by rw[zG];omega) (λa ha=>by
   obtain⟨s,_,rfl⟩:=zM.1 ha;exact zAN s [])
  have F:uL ((b.map λs=>MK s []).map Alt.ts)=uL ((gi c z).map λs=>[⟨s,[]⟩]):=by
   rw[wF];exact Ul (I.map _)
  rw[F]at m;have D:uL ((gi c z).map λs=>[⟨s,[]⟩])≠[]:=Xh (by simpa using p);have E:(uL ((gi c z).map λs=>[⟨s,[]⟩])).length<=1048576:=by
   refine zf (gp _) ?_;rw[zG];omega
  generalize uL ((gi c z).map λs=>[⟨s,[]⟩])=M at *
  have f:=Q8 E;rw[ZM]at f;have t:∀h',Ext h h'->Q (Wd (szd M)) h':=λh' he=>R _ _ ⟨he,by rw[(jD _ 0).1];exact(jD _ _).2,by rw[(jD _ 0).1]⟩;have u:=q.1;clear R F I l p G q;have v:∀r,Fin 1 (qe (M.map mkA)) r->r=.sl 1 (qe (M.map mkA)) .no:=λr hr=>by
   rcases hr with⟨_,e⟩ |e
   ·exact absurd (by simpa [qe]using e) D
   ·exact e
  repeat' first|simp only[go_sem, *]|apply bc<;>intro j
  refine(m _).mono ?_;rintro r h3 ⟨k,hr⟩;subst k;have T:=v r hr;subst T;have k:=t _ u;clear t hr m u D E;cases X:szd M with
  |none=>
   rw[X]at f k;simp only[Wd]at f k
   repeat' first|simp only[go_sem, *]|apply bc<;>intro j|refine zE.use (f _) ?_
  |some M'=>
   rw[X]at f k;simp only[Wd]at f k
   repeat' first|simp only[go_sem, *]|apply bc<;>intro j|refine zE.use (f _) ?_
def Jd{l:List (List Trm)}(h0:l≠[]){r:D}(hr:Fin 1 (qe (l.map mkA)) r):r=.sl 1 (qe (l.map mkA)) .no:=by
 rcases hr with⟨_,e⟩ |e
 ·exact absurd (by simpa [qe]using e) h0
 ·exact e
def Um{m:Nat}{l:List (List Trm)}(h:∀t∈l,t≠[]/\t.length<=m)(b:m<=4096):∀q∈l.map mkA,q.Ok:=λq c=>by
 obtain⟨t,a,rfl⟩:=zM.1 c;exact MF (h t a).1 (zf (h t a).2 b)
def Cy(l:List (List Trm)):(l.map mkA).map Alt.ts=l:=by rw[wF];exact d7 _
structure MInv(c:Cat)(k:Int)(l:List Ex)(R:Option (List (List Trm)))(g:Heap)(i:Nat)(out:List (List Trm))(o:D)(h:Heap):Prop where
 hE:Ext g h
 hK:cO c k (l.drop i) (i==0) out=R
 hor:k=3->Own g h 1 (qe (out.map mkA)) o
 hand:k≠3->(i=0/\out= [])\/(out≠[]/\o=.sl 1 (qe (out.map mkA)) .no/\out.length<=64)
 hts:∀t∈out,t≠[]/\t.length<=qZ (l.take i)
 hol:out.length<=64*i+64
theorem Ky(D:uc c d)(hs:c.Sm):∀(n:Nat)(e:Ex),e.size<=n->e.size<=64->e.Fit c->e.Ok->∀g:Heap,
  zE prog 209 [d,.agg e.cells] g λr h'=>h'=g/\r=dM c e:=by
 intro n
 induction n with
 |zero=>intro e h;cases e;simp only[Ex.size]at h;omega
 |succ n ih=>
 intro e hn W J S g;obtain⟨k,nm,x,l,dd⟩:=e;have I:(Ex.mk k nm x l dd).cells= [.int .i64 k,.str nm,.str x,dd]:=rfl;rw[I];simp only[Ex.size]at hn W;have F:∀(i:Nat)(hi:i<l.length),l[i].Fit c/\l[i].Ok/\∀g:Heap,zE prog 209 [d,.agg l[i].cells] g λr h'=>h'=g/\r=dM c l[i]:=λi hi=>by
  have Z:=zH hi;have h1:l[i].Fit c:=J.kid (e:=.mk k nm x l dd) Z;have h2:l[i].Ok:=px (by simp only[Ex.Ok]at S;exact S.2.2.2.2) _ Z;have h3:=uI Z;exact⟨h1,h2,ih _ ow ow h1 h2⟩
 rcases Nr J with⟨hk,hl,hx,y,hy⟩ | ⟨hk,b7⟩
 ·rcases hk with rfl|rfl
  ·refine(LG D (n:=nm) (x:=x) (y:=dd) g).mono λr h' ⟨q1,q2⟩=>⟨q1,?_⟩;rw[q2];simp[dM,bZ]
  ·refine(LH D hs hy (x:=x) (y:=dd) g).mono λr h' ⟨q1,q2⟩=>⟨q1,?_⟩;rw[q2];simp[dM,bZ,hy]
 have e0:(k==0)=false:=by rcases hk with rfl|rfl<;>rfl
 have e1:(k==1)=false:=by rcases hk with rfl|rfl<;>rfl
 have hR:bZ c (.mk k nm x l dd)=match cO c k l true []with
  |none=>none
  |some out=>szd (uL out):=by rw[bZ,iq (by rw[e0];exact zZ),iq (by rw[e1];exact zZ)];try (cases cO c k l true []<;>rfl)
 have N:∀R,cO c k l true []=some R->AltsOk 64 R/\R.length<=64*l.length:=λR hR=>by
  have:=(PU (c:=c) (qZ l)).2 k l (zD _) (λe he=>J.kid (e:=.mk k nm x l dd) he) 0 true [] R (λt V=>by cases V) (by simp) (λe=>by subst e;simp at b7) hR;exact⟨this.1.mono ow,by simpa using this.2⟩
 have ck:l.length<=64:=by
  have:∀l:List Ex,l.length<=qZ l:=λl=>by
   induction l with
   |nil=>simp
   |cons e l ih=>simp only[qZ,zm];cases e;simp only[Ex.size];omega
  have:=this l;omega
 have a6:yi 4 (exs l) dd:=by simp only[Ex.Ok]at S;exact S.1
 have z:=λ(e:Ex) (he:e.Fit c) (l:List (List Trm)) (hl:bZ c e=some l)=>(PU (c:=c) e.size).1 e (zD _) he l hl;have a3:∀i (hi:i<l.length),qZ (l.take (i+1))=qZ (l.take i)+l[i].size/\qZ (l.take (i+1))<=qZ l:=λi hi=>by
  have app:∀a b:List Ex,qZ (a++b)=qZ a+qZ b:=λa b=>by
   induction a with
   |nil=>simp[qZ]
   |cons e a ih=>simp only[yE,qZ,ih];omega
  refine⟨by rw[zQ hi,app];simp[qZ],?_⟩;have:=app (l.take (i+1)) (l.drop (i+1));rw[qP]at this;omega
 obtain⟨R,eR⟩:∃R,cO c k l true []=R:=⟨_,rfl⟩;refine xU kr λcg=>xS ?_;refine xP λQ hQ=> ?_;have p:∀h',Ext g h'->Q (dM c (.mk k nm x l dd)) h':=λh' he=>hQ _ _ ⟨he,by unfold dM;rw[(jD _ 0).1];exact(jD _ _).2,by unfold dM;rw[(jD _ 0).1]⟩;unfold dM at p;rw[hR,eR]at p;rw[eR]at N;clear hQ hR J S ih I;obtain⟨ca,cb,ce,cp,rfl,_,_,_,_⟩:=D;have cf:=pw a6;have b5:=Own.start (Ext.refl g) 1;refine zu Gz ?_;simp only[f209,zA]
 repeat' first|simp only[go_sem, *]|apply bc<;>intro D
 refine zd (λi fr h=>∃out o,fr 2=.iptr [ca,cb,ce,cp] 0/\fr 3=.iptr [.int .i64 k,.str nm,.str x,dd] 0/\fr 54=dd/\fr 55=.int .i64 (l.length:Int)/\fr 56=.int .i64 (i:Int)/\fr 6=o/\MInv c k l R g i out o h) l.length ow ?_ ?_ ?_
 ·have h0:MInv c k l R g 0 [] .nilsl g:=⟨Ext.refl g,eR,λ_=>b5,λ_=>.inl ⟨rfl,rfl⟩,λt V=>(by cases V),by simp⟩;simp only[go_sem,zT,zV,zI];exact⟨_,_,rfl,h0⟩
 ·rintro i fr h Y ec ew ⟨out,o,f2,f3,b2,b3,b4,f6,⟨hE,j,T,s,w,ad⟩⟩;have a1:=kX a6 Y;obtain⟨kf,ko,kc⟩:=F i Y;obtain⟨s1,s2⟩:=a3 i Y;have b9:=Iy l[i] (Ex.flat ko) h h.next;have K:=hE.new hE.1 (.row l[i].cells);have bs:(h.new h.next (.row l[i].cells)).at' h.next=some (.row l[i].cells):=z8 _ _ _;rw[yf Y,cO]at j;have ag:=z _ kf;have ai:Ext h (h.new h.next (.row l[i].cells)):=(Ext.refl h).new (zD _) _;have A:k=3->Own g (h.new h.next (.row l[i].cells)) 1 (qe (out.map mkA)) o:=λe=>(T e).ext ai;generalize hy:l[i]=y at *
  simp only[Ex.cells]at a1 kc b9 K bs A ai;generalize hH:h.new h.next (.row [.int .i64 y.kind,.str y.name,.str y.exc,y.d])=H at *
  clear F a3 z T;have a8:((i:Int)==0)=(i==0):=by cases i<;>rfl
  have ch:(i+1==0)=false:=rfl;cases Z:bZ c y with
  |none=>
   rw[Z]at j;simp only at j;have m:=p H K;rw[<-j]at m;simp only[Wd]at m;have O:dM c y=.tuple [.nilsl,.int .i64 10]:=by unfold dM;rw[Z];rfl
   rw[O]at kc;clear O p A s w j
   repeat' first|simp only[go_sem, *]|apply bc<;>intro D|(refine zE.mono (kc _) ?_;rintro r h ⟨m,rfl⟩)
  |some C=>
   rw[Z]at j;simp only at j;obtain⟨W,u⟩:=ag C Z;have O:dM c y=.tuple [.sl 1 (qe (C.map mkA)) .no,.int .i64 0]:=by unfold dM;rw[Z];rfl
   rw[O]at kc;clear O ag;cases q3:(k==3)with
   |true=>
    rw[ip q3]at j;have v:k=3:=by simpa using q3
    have bk:=A v;clear s A p
    repeat' first|simp only[go_sem, *]|apply bc<;>intro D|(refine zE.mono (kc _) ?_;rintro r h ⟨m,rfl⟩)
    subst m;refine bk.appH (ys:=qe (C.map mkA)) uV po ue ow (si _) (by simpa [qe]using u.ne) (by rw[qC,qC,zG,zG,tU];unfold lim;omega) (by rw[qC,qC,zG,zG];unfold lim;omega) λd' h' ba=> ?_;have a2:Own g h' 1 (qe ((out++C).map mkA)) d':=by
     have:qe ((out++C).map mkA)=qe (out.map mkA)++qe (C.map mkA):=by simp[qe]
     rw[this];exact ba
    have B:MInv c k l R g (i+1) (out++C) d' h':=⟨a2.1,j,λ_=>a2,λq=>absurd v q,λt V=>by
     rcases yp.1 V with q|q
     ·exact⟨(w t q).1,zf (w t q).2 ow⟩
     ·exact⟨(u.ts t q).1,zf (u.ts t q).2 ow⟩,by rw[zR];omega⟩
    clear ba bk j w ad u a2 v
    repeat' first|simp only[go_sem, *]|apply bc<;>intro D
    exact⟨_,_,rfl,B⟩
   |false=>
    rw[iq (by rw[q3];exact zZ)]at j;have v:k≠3:=by simpa using q3
    have E:=s v;clear s A;cases q0:(i==0)with
    |true=>
     rw[ip q0]at j;have B:MInv c k l R g (i+1) C (.sl 1 (qe (C.map mkA)) .no) H:=⟨K,j,λq=>absurd q v,λ_=>.inr ⟨u.ne,rfl,W⟩,λt V=>⟨(u.ts t V).1,zf (u.ts t V).2 ow⟩,by omega⟩;clear j w ad u E p;rw[q0]at a8
     repeat' first|simp only[go_sem, *]|apply bc<;>intro D|(refine zE.mono (kc _) ?_;rintro r h ⟨m,rfl⟩)
     subst m;exact⟨_,_,rfl,B⟩
    |false=>
     rw[iq (by rw[q0];exact zZ)]at j;rw[q0]at a8;obtain⟨ak,ho,bb⟩:out≠[]/\o=.sl 1 (qe (out.map mkA)) .no/\out.length<=64:=by
      rcases E with⟨q,_⟩ |q
      ·subst q;exact absurd q0 (by decide)
      ·exact q
     subst ho;have U:=AltsOk.pairs ⟨ak,w⟩ u;have b0:=Um w ow;have b1:=Um u.ts ow;have a5:=Bp (yi.mk (sz:=1) (xs:=qe (out.map mkA)) .no) (yi.mk (sz:=1) (xs:=qe (C.map mkA)) .no);have au:=LA (yi.mk (sz:=1) (xs:=qe (out.map mkA)) .no) (yi.mk (sz:=1) (xs:=qe (C.map mkA)) .no) b0 b1 (by rw[zG];omega) (by rw[zG];omega);have bo:dY (out.map mkA) (C.map mkA)=gv out C:=rfl;rw[bo]at au;have cl:(gv out C).length<=4096:=by
      rw[VQ];exact zf (kE bb W) ow
     have G:=Y1 (yi.mk (sz:=1) (xs:=qe ((gv out C).map mkA)) .no) (by simpa using U.ne) (by rw[zG];omega) (Um U.ts ow);rw[Cy]at G;have z:=U.min;have a9:=z.ne;have a0:(uL (gv out C)).length<=1048576:=zf (gp _) ow;have a7:=λr hr=>Jd U.ne (r:=r) hr;have L:=λr hr=>Jd z.ne (r:=r) hr;generalize gv out C=P at *
     generalize hM:uL P=M at *
     have f:=Q8 a0;rw[ZM]at f;clear bo U b0 b1 w ad u E ak
     repeat' first|simp only[go_sem, *]|apply bc<;>intro D|(refine zE.mono (kc _) ?_;rintro r h ⟨m,rfl⟩)
     subst m;clear kc;refine(a5 _).mono ?_;rintro r h1 ⟨m,rfl⟩;subst m;clear a5
     repeat' first|simp only[go_sem, *]|apply bc<;>intro D
     refine(au _).mono ?_;rintro r h2 ⟨m,hr⟩;subst m;have hr:=a7 r hr;subst hr;clear au
     repeat' first|simp only[go_sem, *]|apply bc<;>intro D
     refine(G _).mono ?_;rintro r h3 ⟨m,hr⟩;subst m;have hr:=L r hr;subst hr;clear G a7 L;cases hz:szd M with
     |none=>
      rw[hz]at j f;simp only at j;have m:=p _ K;rw[<-j]at m;simp only[Wd]at m f;clear p j z a9
      repeat' first|simp only[go_sem, *]|apply bc<;>intro D|refine zE.use (f _) ?_
     |some M'=>
      obtain⟨rfl,a4⟩:=Yd hz;rw[hz]at j f;simp only at j;simp only[Wd]at f;have B:MInv c k l R g (i+1) M' (.sl 1 (qe (M'.map mkA)) .no) h3:=⟨K,j,λq=>absurd q v,λ_=>.inr ⟨a9,rfl,a4⟩,λt V=>by rw[s1];exact z.ts t V,by omega⟩;clear p j z
      repeat' first|simp only[go_sem, *]|apply bc<;>intro D|refine zE.use (f _) ?_
      exact⟨_,_,rfl,B⟩
 ·rintro fr h ec ⟨out,o,f2,f3,b2,b3,b4,f6,⟨hE,j,T,s,w,ad⟩⟩;have b6:l.drop l.length= []:=nw;rw[b6,cO]at j;obtain⟨X,cc⟩:=N out j.symm;have bx:yi 1 (qe (out.map mkA)) o:=by
   by_cases v:k=3
   ·exact(T v).isSl
   ·rcases s v with⟨q,_⟩ | ⟨_,q,_⟩
    ·omega
    ·rw[q];exact yi.mk .no
  have G:=Y1 bx (by simpa using X.ne) (by rw[zG];omega) (Um X.ts ow);rw[Cy]at G;have L:=λr hr=>Jd X.min.ne (r:=r) hr;have a0:(uL out).length<=1048576:=zf (gp _) ow;have f:=Q8 a0;rw[ZM]at f;have m:=p _ hE;rw[<-j]at m;simp only at m;clear p N T s w X bx F z a3 j;generalize uL out=M at *
  repeat' first|simp only[go_sem, *]|apply bc<;>intro D
  refine(G _).mono ?_;rintro r h3 ⟨b8,hr⟩;subst b8;have hr:=L r hr;subst hr;clear G L;cases hz:szd M with
  |none=>
   rw[hz]at f m;simp only[Wd]at m f
   repeat' first|simp only[go_sem, *]|apply bc<;>intro D|refine zE.use (f _) ?_
  |some M'=>
   rw[hz]at f m;simp only[Wd]at m f
   repeat' first|simp only[go_sem, *]|apply bc<;>intro D|refine zE.use (f _) ?_
def ofD(c:Cat)(e:Ex):D:=if(o9 c e==0)=true then dM c e else .tuple [.nilsl,.int .i64 (o9 c e)]
def BY(i:uc c d)(o:c.Sm)(k:e.Ok)(m:e.size<=1048576)(g:Heap):
  zE prog 149 [d,.agg e.cells] g λr h'=>h'=g/\r=ofD c e:=by
 have b:=Yz i o k m;have j:=λ(h:o9 c e=0)=>Ky i o e.size e (zD _) (Ns h).2.1 (Ns h).2.2 k;obtain⟨ca,cb,ce,cp,rfl,_,_,_,_⟩:=i;refine xP λQ p=> ?_;have f:=p (ofD c e) g ⟨rfl,rfl⟩;unfold ofD at f;simp only[Ex.cells]at b j⊢;refine zu zFE ?_;simp only[f149,zA];cases q:(o9 c e==0)with
 |false=>
  rw[iq (by rw[q];exact zZ)]at f
  repeat' first|simp only[go_sem, *]|apply bc<;>intro i|refine zE.use (b _) ?_
 |true=>
  rw[ip q]at f;have a:=j (by simpa using q);unfold dM at f a;cases n:bZ c e with
  |none=>
   rw[n]at f a;simp only[Wd]at f a
   repeat' first|simp only[go_sem, *]|apply bc<;>intro i|refine zE.use (b _) ?_|refine zE.use (a _) ?_
  |some l=>
   rw[n]at f a;simp only[Wd]at f a
   repeat' first|simp only[go_sem, *]|apply bc<;>intro i|refine zE.use (b _) ?_|refine zE.use (a _) ?_
def Ql(l:List (List Trm)):D:=.sl 1 (qe (l.map mkA)) .no
def V5(l:List (List (List Trm))):List (List D):=l.map λa=>[Ql a]
def mj(l:List (List (List Trm))):(V5 l).length=l.length:=zG ..
def Hu{l:List (List (List Trm))}(h:i<l.length):(V5 l)[i]? =some [Ql l[i]]:=by simp[V5,h]
def Hv(l:List (List (List Trm))):∀x∈V5 l,x.length=1:=λx a=>by
 obtain⟨s,_,rfl⟩:=zM.1 a;rfl
def M3(l:List (List (List Trm))):∀x∈V5 l,wr x:=λx b=>by
 obtain⟨s,_,rfl⟩:=zM.1 b;obtain⟨h1,a⟩:=Vk s;exact⟨rfl,by simp only[qO];exact⟨a,trivial⟩,by simp only[qY,Ql];rw[h1]⟩
def ja{l:List (List (List Trm))}(a:yi 1 (V5 l) d)(h:Heap):mC prog 98 d h=some (.int .i64 l.length):=by rw[wa a underlying98,mj]
def V8{l:List (List (List Trm))}(a:yi 1 (V5 l) d)(b:i<l.length):yt prog 98 d (.int .i64 (i:Int))=some (.iptr [Ql l[i]] 0):=yn a fi aC (Hu b)
def lD(c:Cat)(e:Ex):Int:=if(o9 c e==0)=true then(match bZ c e with
 |some _=>0
 |none=>10)else o9 c e
def ofL(c:Cat)(e:Ex):List (List Trm):=(bZ c e).getD []
abbrev zIP:=List (List (List Trm)) ×List (List UInt8) ×Int
def dn(c:Cat):List Fac->List (List (List Trm))->List (List UInt8)->zIP
 | [],t,o=>(t,o,0)
 |f::fs,t,o=>if(f.kind==1)=true then(if(lD c f.e==0)=true then dn c fs (t++ [ofL c f.e]) o else([],[],lD c f.e))
  else if(f.kind==2)=true then dn c fs t (if(o.any (· ==f.out))=true then o else o++ [f.out])else dn c fs t o
def yH(c:Cat)(l:List Fac):zIP:=if(!((wk c l).2==0))=true then([],[],(wk c l).2)else dn c l [] []
def zEv(h:(lD c e==0)=true):ofD c e=.tuple [Ql (ofL c e),.int .i64 0]:=by
 unfold lD at h;unfold ofD ofL dM;split at h
 ·rename_i q;rw[ip q];split at h
  ·rename_i l a;rw[a];rfl
  ·exact absurd h (by decide)
 ·rename_i q;exact absurd h q
def zAE(h:(lD c e==0)=false):ofD c e=.tuple [.nilsl,.int .i64 (lD c e)]:=by
 unfold lD at h⊢;unfold ofD dM;split at h
 ·rename_i q;rw[ip q,ip q];split at h
  ·exact absurd h (by decide)
  ·rename_i a;rw[a];rfl
 ·rename_i q;rw[iq q,iq q]
def zAO(a:List (List Trm))(nid:Nat)(h:Heap):yB prog false nid 98 1 [(0,Ql a)] h=some (.sl 1 [[Ql a]] .full,h):=
 qW (P:=prog) (x:=Ql a) fi Mt aC rfl rfl ow ow rfl rfl
structure ValI(c:Cat)(l:List Fac)(R:zIP)(g:Heap)(i:Nat)(t:List (List (List Trm)))(o:List (List UInt8))(td od:D)(h:Heap):Prop where
 own:Own2 g h 1 (V5 t) td 1 (wn o) od
 eq:dn c (l.drop i) t o=R
 tl:t.length<=i
 ol:o.length<=i
theorem UG(q:uc c d)(hs:c.Sm){l:List Fac}(X:yi 12 (mV l) x)(hl:l.length<=1048576)(w:∀f∈l,f.Ok)(g:Heap):
  zE prog 87 [d,x] g λr h'=>h'=g/\∃td od,r=.tuple [td,od,.int .i64 (yH c l).2.2]/\Fin 1 (V5 (yH c l).1) td/\Fin 1 (wn (yH c l).2.1) od:=by
 have z:=Qo q hs X hl w;have T:=λf (hf:f∈l)=>BY q hs (w f hf).e (w f hf).es;have Z:=pi X;have ag:=jx;obtain⟨ca,cb,ce,cp,rfl,_,_,_,_⟩:=q;refine xU kr λad=>xS ?_;refine xP λQ I=> ?_;have P:=Own2.start (Ext.refl g) 1 1;refine zu zM7 ?_;simp only[f87,zA];cases q1:((wk c l).2==0)with
 |false=>
  have C:yH c l=([],[],(wk c l).2):=by unfold yH;rw[q1];rfl
  have y:=I (.tuple [.nilsl,.nilsl,.int .i64 (wk c l).2]) g ⟨Ext.refl g,by simp[qD,qY,below,qO],.nilsl,.nilsl,by rw[C];rfl,.inl ⟨rfl,by rw[C];rfl⟩,.inl ⟨rfl,by rw[C];rfl⟩⟩
  repeat' first|simp only[go_sem, *]|apply bc<;>intro q|refine zE.use (z _) ?_
 |true=>
 have C:yH c l=dn c l [] []:=by unfold yH;rw[q1];rfl
 obtain⟨R,Y⟩:∃R,dn c l [] []=R:=⟨_,rfl⟩;rw[C,Y]at I
 repeat' first|simp only[go_sem, *]|apply bc<;>intro q|(refine zE.mono (z _) ?_;rintro r h ⟨y,rfl⟩)
 refine zd (λi fr h=>∃t o td od,fr 2=.iptr [ca,cb,ce,cp] 0/\fr 24=x/\fr 25=.int .i64 (l.length:Int)/\fr 26=.int .i64 (i:Int)/\fr 9=td/\fr 10=od/\ValI c l R g i t o td od h) l.length ow ?_ ?_ ?_
 ·have h0:ValI c l R g 0 [] [] .nilsl .nilsl g:=⟨P,Y,zD _,zD _⟩;simp only[go_sem,zT,zV,zI];exact⟨_,_,_,_,rfl,rfl,h0⟩
 ·clear z;rintro i fr u v ec ew ⟨t,o,td,od,f2,M,N,O,f9,L,⟨n,m,W,U⟩⟩;have a1:=tP X v;have S:=w _ (zH v);have s:=T _ (zH v);have V:=Vi S u u.next;rw[yf v,dn]at m;have G:(u.new u.next (.row l[i].cells)).at' u.next=some (.row l[i].cells):=z8 _ _ _;have j:=n.ext ((Ext.refl u).new (zD _) (.row l[i].cells));have p:=λ(h:Heap)=>jQ n.b.isSl (by omega:o.length<=1048576) l[i].out h;generalize l[i]=f at *
  simp only[Fac.cells,Ex.cells]at a1 V G j s;generalize hH:u.new u.next (.row [.int .i64 f.kind,.str f.comp,.str f.out,.int .i64 f.rel,.int .i64 f.way,.int .i64 f.duty,.bool f.chg,.int .i64 f.e.kind,.str f.e.name,.str f.e.exc,f.e.d,f.d])=H at *
  have ai:yW true 4 [.int .i64 f.kind,.str f.comp,.str f.out,.int .i64 f.rel,.int .i64 f.way,.int .i64 f.duty,.bool f.chg,.int .i64 f.e.kind,.str f.e.name,.str f.e.exc,f.e.d,f.d] 7=some (.agg [.int .i64 f.e.kind,.str f.e.name,.str f.e.exc,f.e.d]):=rfl;cases q2:(f.kind==1)with
  |true=>
   rw[ip q2]at m;cases B:(lD c f.e==0)with
   |true=>
    rw[ip B]at m;rw[zEv B]at s;have F:=zAO (ofL c f.e)
    repeat' first|simp only[go_sem, *]|apply bc<;>intro q|(refine zE.mono (s _) ?_;rintro r h ⟨y,rfl⟩)
    subst y;refine j.appH (zs:=V5 [ofL c f.e]) fi Ha aC ow (Hv _) (by simp[V5]) (by rw[mj,mj,To];unfold lim;simp;omega) (by rw[mj,mj];unfold lim;simp;omega) λK h' A=> ?_;have k:ValI c l R g (i+1) (t++ [ofL c f.e]) o K od h':=⟨by
     have:V5 (t++ [ofL c f.e])=V5 t++V5 [ofL c f.e]:=by simp[V5]
     rw[this];exact A,m,by simp;omega,by omega⟩
    repeat' first|simp only[go_sem, *]|apply bc<;>intro q
    exact⟨_,_,_,_,rfl,rfl,k⟩
   |false=>
    rw[iq (by rw[B];exact zZ)]at m;rw[zAE B]at s;have y:=I (.tuple [.nilsl,.nilsl,.int .i64 (lD c f.e)]) H ⟨j.a.1,by simp[qD,qY,below,qO],.nilsl,.nilsl,by rw[<-m];rfl,.inl ⟨rfl,by rw[<-m];rfl⟩,.inl ⟨rfl,by rw[<-m];rfl⟩⟩
    repeat' first|simp only[go_sem, *]|apply bc<;>intro q|refine zE.use (s _) ?_
  |false=>
   rw[iq (by rw[q2];exact zZ)]at m;cases B:(f.kind==2)with
   |true=>
    rw[ip B]at m;cases J:(o.any (· ==f.out))with
    |true=>
     rw[ip J]at m;rw[J]at p;have k:ValI c l R g (i+1) t o td od H:=⟨j,m,by omega,by omega⟩
     repeat' first|simp only[go_sem, *]|apply bc<;>intro q|(refine zE.mono (p _) ?_;rintro r h ⟨y,rfl⟩)
     subst y;exact⟨_,_,_,_,rfl,rfl,k⟩
    |false=>
     rw[iq (by rw[J];exact zZ)]at m;rw[J]at p;have F:=gu f.out
     repeat' first|simp only[go_sem, *]|apply bc<;>intro q|(refine zE.mono (p _) ?_;rintro r h ⟨y,rfl⟩)
     subst y;refine j.swap.appH (zs:=wn [f.out]) uK aU pz ow TD (by simp[wn]) (by rw[qw,oP];unfold lim;simp[wn];omega) (by rw[qw];unfold lim;simp[wn];omega) λK h' A=> ?_;have k:ValI c l R g (i+1) t (o++ [f.out]) td K h':=⟨by
      have:wn (o++ [f.out])=wn o++wn [f.out]:=by simp[wn]
      rw[this];exact A.swap,m,by omega,by simp;omega⟩
     repeat' first|simp only[go_sem, *]|apply bc<;>intro q
     exact⟨_,_,_,_,rfl,rfl,k⟩
   |false=>
    rw[iq (by rw[B];exact zZ)]at m;have k:ValI c l R g (i+1) t o td od H:=⟨j,m,by omega,by omega⟩
    repeat' first|simp only[go_sem, *]|apply bc<;>intro q
    exact⟨_,_,_,_,rfl,rfl,k⟩
 ·rintro fr u ec ⟨t,o,td,od,f2,M,N,O,f9,L,⟨n,m,W,U⟩⟩;rw[nw,dn]at m;have D:=n.a.2.1.fin (M3 t);have E:=n.b.2.1.fin (uo (l:=o));have y:=I (.tuple [td,od,.int .i64 0]) u ⟨n.a.1,by
   simp only[qD,qY,below,qO];exact⟨qF (yC _) _ D.1,qF (yC _) _ E.1,trivial,trivial⟩,qD td,qD od,by rw[<-m];rfl,by rw[<-m];exact D.2,by rw[<-m];exact E.2⟩
  exact au
def RT(a b:List Trm):Bool:=Zn yk a b==0
def lw(a b:List Trm):RT a b=true↔a=b:=by
 unfold RT;constructor
 ·intro h;exact UY bG _ _ (by simpa using h)
 ·rintro rfl;simp[gx.list.refl]
def Az(a b:Nat):((a:Int)==(b:Int))=(a==b):=by
 by_cases h:a=b
 ·simp[h]
 ·rw[yr.2 h,yr.2 ow]
def zAz(x y:Trm)(c:Bool):jI prog .neq 197 c (.agg [.str x.a,.str x.b]) (.agg [.str y.a,.str y.b])=some (.bool (!(yk x y==0))):=by
 have d:eqT prog 197=some [.s,.s]:=kr;rw[fe];simp only[jI,d,KA,eqK,wB,rx,oe]
def GD{a b:List Trm}(B:yi 2 (wt a) x)(C:yi 2 (wt b) y)(K:a.length<=1048576)(g:Heap):
  zE prog 126 [x,y] g λr h'=>h'=g/\r=.bool (RT a b):=by
 have L:=uf B;have M:=uf C;refine xP λQ s=> ?_;have j:=s _ _ ⟨rfl,rfl⟩;clear s;refine zu zE7 ?_;simp only[f126,zA];cases q:((a.length:Int)==(b.length:Int))with
 |false=>
  have p:RT a b=false:=by
   cases h:RT a b with
   |false=>rfl
   |true=>rw[(lw _ _).1 h]at q;simp at q
  rw[p]at j;simp only[go_sem, *]
 |true=>
 have o:a.length<=b.length/\b.length<=a.length:=by have:=yK q;omega
 obtain⟨t,w⟩:=o;simp only[go_sem, *];refine zd (λi fr h=>fr 0=x/\fr 1=y/\fr 12=.int .i64 (a.length:Int)/\fr 13=.int .i64 (i:Int)/\h=g/\a.take i=b.take i) a.length ow ?_ ?_ ?_
 ·simp only[go_sem,zT,zV,zI];rfl
 ·rintro i fr h f F J ⟨G,H,l,m,rfl,d⟩;have c:i<b.length:=ow;have D:=oO B f;have E:=oO C c;have z:=zAz a[i] b[i];have h1:∀(e:(yk a[i] b[i]==0)=true),a.take (i+1)=b.take (i+1):=λe=>by
   have I:=bG a[i] b[i] (by simpa using e);rw[zQ f,zQ c,d,I]
  have n:∀(e:(yk a[i] b[i]==0)=false),RT a b=false:=λe=>by
   cases h:RT a b with
   |false=>rfl
   |true=>
    have:=(lw _ _).1 h;subst this;rw[gx.refl]at e;exact absurd e (by decide)
  generalize a[i]=u at *
  generalize b[i]=v at *
  simp only[Trm.cells]at D E;cases k:(yk u v==0)with
  |true=>
   have A:=h1 k;rw[k]at z;clear h1 n d j;simp only[go_sem, *];refine yI kr ?_;simp only[go_sem, *]
  |false=>
   rw[n k]at j;rw[k]at z;clear h1 n d;simp only[go_sem, *];refine yI kr ?_;exact au
 ·rintro fr h F ⟨G,H,l,m,rfl,d⟩
  have:a=b:=by
   rw[z6,show a.length=b.length by omega,z6]at d;exact d
  rw[(lw _ _).2 this]at j;clear d this;exact au
def zIl{a b:List Trm}(e:yi 2 (wt a) x)(f:yi 2 (wt b) y)(d:a.length<=1048576)(h:g.at' id=some (.row [x])):
  zE prog 125 [y,.ptr id 0] g λr h'=>h'=g/\r=.bool (RT a b):=by
 have c:=GD e f d;refine zu zE6 ?_;simp only[f125,zA]
 repeat' first|simp only[go_sem, *]|apply bc<;>intro c|refine zE.use (c _) ?_
def T5{l:List Lic}(n:yi 4 (jc l) d)(C:l.length<=1048576){p:Lic->Bool}(z:∀s∈l,zE prog f ([]++ [.agg s.cells]++cap) g λr h'=>h'=g/\r=.bool (p s)):
  zE prog 191 [d,.fn (.func f) [] cap] g λr h'=>h'=g/\r=.int .i64 (UO p l):=by
 have o:=rS n;refine zu zFS ?_;simp only[f191,zA]
 repeat' first|simp only[go_sem, *]|apply bc<;>intro m
 refine zd (λi fr h=>fr 1=.fn (.func f) [] cap/\fr 0=d/\fr 6=d/\fr 7=.int .i64 (l.length:Int)/\fr 8=.int .i64 (i:Int)/\h=g/\∀j (b:j<l.length),j<i->p l[j]=false) l.length ow ?_ ?_ ?_
 ·simp only[go_sem,zT,zV,zI];exact λj b h0=>by omega
 ·rintro i fr h a e1 B ⟨u,t,v,w,x,rfl,b⟩;have q:=pu n a;have e:=z _ (zH a);simp only[yc,yE,Lic.cells]at e;simp only[Lic.cells]at q;cases k:p l[i]with
  |true=>
   have A:=jV a b k;rw[k]at e
   repeat' first|simp only[go_sem, *]|apply bc<;>intro m|refine zE.use e ?_
  |false=>
   have y:=tB (p:=p) a b k;rw[k]at e
   repeat' first|simp only[go_sem, *]|apply bc<;>intro m|refine zE.use e ?_
   exact y
 ·rintro fr h e1 ⟨u,t,v,w,x,rfl,b⟩;have A:=jW (p:=p) λj c=>b j c c;exact au
def Yu{l:List Lic}(b:yi 4 (jc l) d)(e:l.length<=1048576){p:Lic->Bool}(h:∀s∈l,zE prog f ([]++ [.agg s.cells]++cap) g λr h'=>h'=g/\r=.bool (p s)):
  zE prog 127 [d,.fn (.func f) [] cap] g λr h'=>h'=g/\r=.bool (l.any p):=by
 have a:=T5 b e h;have c:=gb (l:=l) (p:=p);refine zu zE8 ?_;simp only[f127,zA]
 repeat' first|simp only[go_sem, *]|apply bc<;>intro i|refine zE.use a ?_
def zIm(x:Lic)(s:List UInt8)(a:g.at' id=some (.row [.str s])):
  zE prog 128 [.agg x.cells,.ptr id 0] g λr h'=>h'=g/\r=.bool (x.name==s):=by
 refine zu zE9 ?_;simp only[f128,zA];simp only[Lic.cells];exact au
structure Cho where
 ts:List Alt
 own:List (List UInt8)
structure Alt.Sm(a:Alt):Prop where
 sl:yi 2 (wt a.ts) a.d
 len:a.ts.length<=1048576
def BL(y:Cho)(d:D):Prop:=∃a b,d=.agg [a,b]/\yi 1 (qe y.ts) a/\yi 1 (wn y.own) b
structure Cho.Sm(y:Cho):Prop where
 tl:y.ts.length<=1048576
 ol:y.own.length<=1048576
 ts:∀a∈y.ts,a.Sm
def n9(v:List (List (List Trm)))(ts:List Alt)(p:Bool)(i:Nat):Int:=match ts[i]? with
 |none=>0
 |some a=>if(p&&((a.ts.length:Int)==0))=true then 0 else if(!((v.getD i []).any λb=>RT a.ts b))=true then 1 else 0
def Qh(c:Cat)(own:List (List UInt8))(p:Bool)(i:Nat):Int:=match own[i]? with
 |none=>0
 |some s=>if(p&&(s== []))=true then 0 else if(!(c.ls.any λx=>x.name==s))=true then 7 else 0
def uT(c:Cat)(l:List Fac)(y:Cho)(p:Bool):Int:=
 if(!((yH c l).2.2==0))=true then(yH c l).2.2
 else if(!((y.ts.length:Int)==((yH c l).1.length:Int))|| !((y.own.length:Int)==((yH c l).2.1.length:Int)))=true then 9
 else if(!(j9 (n9 (yH c l).1 y.ts p) y.ts.length==0))=true then j9 (n9 (yH c l).1 y.ts p) y.ts.length
 else j9 (Qh c y.own p) y.own.length
def zEw(h:(lD c e==0)=true):(ofL c e).length<=64/\AltsOk 64 (ofL c e):=by
 unfold lD at h;unfold ofL;split at h
 ·rename_i q;obtain⟨_,b,h3⟩:=Ns (show o9 c e=0 by simpa using q);split at h
  ·rename_i l a;have:=(PU (c:=c) e.size).1 e (zD _) h3 l a;rw[a];exact⟨this.1,this.2.mono b⟩
  ·exact absurd h (by decide)
 ·rename_i q;exact absurd h q
theorem TJ:∀{l:List Fac}{t:List (List (List Trm))}{o:List (List UInt8)},(∀a∈t,a.length<=64/\AltsOk 64 a)->∀a∈(dn c l t o).1,a.length<=64/\AltsOk 64 a
 | [],t,o,h=>by rw[dn];exact h
 |f::fs,t,o,h=>by
  rw[dn];split
  ·split
   ·rename_i q;exact TJ λa b=>by
     rcases yp.1 b with g|g
     ·exact h a g
     ·cases ze.1 g;exact zEw q
   ·intro a b;cases b
  ·split
   ·exact TJ h
   ·exact TJ h
def pc{l:List Fac} :∀a∈(yH c l).1,a.length<=64/\AltsOk 64 a:=by
 unfold yH;split
 ·intro a b;cases b
 ·exact TJ λa b=>by cases b
theorem UD(C:uc c d)(hs:c.Sm){l:List Fac}(hx:yi 12 (mV l) x)(hl:l.length<=1048576)(a6:∀f∈l,f.Ok){y:Cho}(hy:BL y z)(a9:y.Sm)(p:Bool)(g:Heap):
  zE prog 74 [d,x,z,.bool p] g λr h'=>h'=g/\r=.int .i64 (uT c l y p):=by
 have V:=UG C hs hx hl a6;have bk:=C;obtain⟨ca,cb,ce,cp,rfl,a4,_,_,_⟩:=C;obtain⟨ya,yb,rfl,P,hb⟩:=hy;obtain⟨y1,y2,y3⟩:=a9;have bs:=tn P;have bx:=wh hb;refine xU kr λba=> ?_;refine xP λQ hQ=> ?_;obtain⟨E,w⟩:∃E,uT c l y p=E:=⟨_,rfl⟩;have m:∀h',Ext g h'->Q (.int .i64 E) h':=λh' I=>hQ _ _ ⟨I,trivial,by rw[w]⟩;clear hQ;unfold uT at w;refine zu zM3 ?_;simp only[f74,zA]
 repeat' first|simp only[go_sem, *]|apply bc<;>intro C
 refine(V _).mono ?_;rintro r h ⟨B,td,od,rfl,J,M⟩;subst B;clear V;have X:=Ext.refl h;have J:yi 1 (V5 (yH c l).1) td:=J.isSl;have M:yi 1 (wn (yH c l).2.1) od:=M.isSl;have a5:=ja J;have bo:=wh M;have a8:∀a∈(yH c l).1,a.length<=1048576:=λa P=>zf (pc a P).1 ow;cases q1:((yH c l).2.2==0)with
 |false=>
  rw[ip (by rw[q1];rfl)]at w;have B:=m h X;rw[<-w]at B;clear m w
  repeat' first|simp only[go_sem, *]|apply bc<;>intro C
 |true=>
 rw[iq (by rw[q1];decide)]at w;generalize yH c l=v at *
 cases R:((y.ts.length:Int)==(v.1.length:Int))with
 |false=>
  rw[ip (by rw[R];rfl)]at w;have B:=m h X;rw[<-w]at B;clear m w
  repeat' first|simp only[go_sem, *]|apply bc<;>intro C
 |true=>
 cases q3:((y.own.length:Int)==(v.2.1.length:Int))with
 |false=>
  rw[ip (by rw[R,q3];rfl)]at w;have B:=m h X;rw[<-w]at B;clear m w
  repeat' first|simp only[go_sem, *]|apply bc<;>intro C
 |true=>
 rw[iq (by rw[R,q3];decide)]at w;have T:y.ts.length<=v.1.length:=by have:=yK R;omega
 obtain⟨F,S⟩:∃F,j9 (n9 v.1 y.ts p) y.ts.length=F:=⟨_,rfl⟩;rw[S]at w
 repeat' first|simp only[go_sem, *]|apply bc<;>intro C
 clear q1;refine zd (λi fr u=>fr 3=.bool p/\fr 4=.iptr [ca,cb,ce,cp] 0/\fr 6=.iptr [ya,yb] 0/\fr 9=td/\fr 41=ya/\fr 42=.int .i64 (y.ts.length:Int)/\fr 43=.int .i64 (i:Int)/\Ext h u/\∀j,j<i->n9 v.1 y.ts p j=0) y.ts.length ow ?_ ?_ ?_
 ·have h0:∀j,j<0->n9 v.1 y.ts p j=0:=λj D=>absurd D (yq _);simp only[go_sem,zT,zV,zI];exact⟨X,h0⟩
 ·rintro i fr u G ec ew ⟨Y,Z,f6,f9,ad,ag,ai,I,D⟩;have a1:=ox P G;have a2:=V8 J (show i<v.1.length by omega);have sm:=y3 _ (zH G);have k:n9 v.1 y.ts p i=if(p&&((y.ts[i].ts.length:Int)==0))=true then 0 else if(!(v.1[i].any λb=>RT y.ts[i].ts b))=true then 1 else 0:=by
   unfold n9;rw[zB G];simp only;rw[zC,zB ow];rfl
  have q:=λ(e:n9 v.1 y.ts p i=0)=>pX (f:=n9 v.1 y.ts p) D e;have o:=λ(e:n9 v.1 y.ts p i≠0)=>jZ (f:=n9 v.1 y.ts p) G D e;rw[S]at o;have N:(u.new u.next (.row [y.ts[i].d])).at' u.next=some (.row [y.ts[i].d]):=z8 _ _ _;have K:=I.new I.1 (.row [y.ts[i].d]);have n:=gW (l:=v.1[i].map mkA) (d:=Ql v.1[i]) (yi.mk .no) (by rw[zG];exact a8 _ (zH _)) (f:=125) (cap:=[.ptr u.next 0]) (p:=λb=>RT y.ts[i].ts b.ts) (g:=u.new u.next (.row [y.ts[i].d])) (λs hs=>by
   obtain⟨t,ht,rfl⟩:=zM.1 hs;exact⟨yi.mk .no,zIl sm.sl (yi.mk .no) sm.len N⟩)
  have O:(v.1[i].map mkA).any (λb=>RT y.ts[i].ts b.ts)=v.1[i].any λb=>RT y.ts[i].ts b:=by rw[ZY];rfl
  rw[O]at n;clear O;obtain⟨k1,k2,k3⟩:=yP sm.sl;have b0:=uf sm.sl;generalize y.ts[i]=a at *
  generalize v.1[i]=b at *
  have a7:yX prog 195 (.ptr u.next 0) a.d (u.new u.next (.row [.nilsl]))=some (u.new u.next (.row [a.d])):=by
   rw[yU (off:=0) (z8 _ _ _) ue (by simp) k1 k3,gq];rfl
  have bb:(Ql b).notTuple=true:=rfl;generalize u.new u.next (.row [a.d])=H at *
  clear D S P hb J M y3 sm R q3;cases U:p with
  |true=>
   subst U;cases W:((a.ts.length:Int)==0)with
   |true=>
    have L:=q (by rw[k,W];rfl);clear q o k n m w
    repeat' first|simp only[go_sem, *]|apply bc<;>intro C
    exact L
   |false=>
    rw[iq (by rw[W];decide)]at k;cases A:(b.any λt=>RT a.ts t)with
    |true=>
     have L:=q (by rw[k,A];rfl);rw[A]at n;clear q o k m w
     repeat' first|simp only[go_sem, *]|apply bc<;>intro C|(refine zE.mono n ?_;rintro r h ⟨B,rfl⟩)
     subst B;exact L
    |false=>
     have h1:F=1:=by rw[o (by rw[k,A];decide),k,A];rfl
     subst h1;rw[ip (by decide)]at w;have B:=m H K;rw[<-w]at B;rw[A]at n;clear q o k m w
     repeat' first|simp only[go_sem, *]|apply bc<;>intro C|refine zE.use n ?_
  |false=>
   subst U;rw[iq (by rw[wV];decide)]at k;cases A:(b.any λt=>RT a.ts t)with
   |true=>
    have L:=q (by rw[k,A];rfl);rw[A]at n;clear q o k m w
    repeat' first|simp only[go_sem, *]|apply bc<;>intro C|(refine zE.mono n ?_;rintro r h ⟨B,rfl⟩)
    subst B;exact L
   |false=>
    have h1:F=1:=by rw[o (by rw[k,A];decide),k,A];rfl
    subst h1;rw[ip (by decide)]at w;have B:=m H K;rw[<-w]at B;rw[A]at n;clear q o k m w
    repeat' first|simp only[go_sem, *]|apply bc<;>intro C|refine zE.use n ?_
 ·rintro fr u ec ⟨Y,Z,f6,f9,ad,ag,ai,I,D⟩;have a3:F=0:=by rw[<-S];exact tZ D
  subst a3;rw[iq (by decide)]at w;clear S D J a5 T R q3
  repeat' first|simp only[go_sem, *]|apply bc<;>intro C
  refine zd (λi fr u=>fr 3=.bool p/\fr 4=.iptr [ca,cb,ce,cp] 0/\fr 63=yb/\fr 64=.int .i64 (y.own.length:Int)/\fr 65=.int .i64 (i:Int)/\Ext h u/\∀j,j<i->Qh c y.own p j=0) y.own.length ow ?_ ?_ ?_
  ·have h0:∀j,j<0->Qh c y.own p j=0:=λj D=>absurd D (yq _);simp only[go_sem,zT,zV,zI];exact⟨Y,Z,I,h0⟩
  ·clear I;rintro i fr u G ec ew ⟨Y,Z,ak,f64,a0,I,D⟩;have a1:=rP hb G;have k:Qh c y.own p i=if(p&&(y.own[i]== []))=true then 0 else if(!(c.ls.any λx=>x.name==y.own[i]))=true then 7 else 0:=by
    unfold Qh;rw[zB G]
   have q:=λ(e:Qh c y.own p i=0)=>pX (f:=Qh c y.own p) D e;have o:=λ(e:Qh c y.own p i≠0)=>jZ (f:=Qh c y.own p) G D e;rw[w]at o;generalize y.own[i]=s at *
   have N:(u.new u.next (.row [.str s])).at' u.next=some (.row [.str s]):=z8 _ _ _;have K:=I.new I.1 (.row [.str s]);have n:=Yu a4 hs.ls.1 (f:=128) (cap:=[.ptr u.next 0]) (p:=λx=>x.name==s) (g:=u.new u.next (.row [.str s])) (λx _=>zIm x s N);have a7:yX prog 9 (.ptr u.next 0) (.str s) (u.new u.next (.row [.str []]))=some (u.new u.next (.row [.str s])):=by
    rw[yU (off:=0) (z8 _ _ _) pz (by simp) rfl rfl,gq];rfl
   generalize u.new u.next (.row [.str s])=H at *
   clear D w P hb M y3;cases U:p with
   |true=>
    subst U;cases W:(s== [])with
    |true=>
     have L:=q (by rw[k,W];rfl);clear q o k n m
     repeat' first|simp only[go_sem, *]|apply bc<;>intro C
     exact L
    |false=>
     rw[iq (by rw[W];decide)]at k;cases A:(c.ls.any λx=>x.name==s)with
     |true=>
      have L:=q (by rw[k,A];rfl);rw[A]at n;clear q o k m
      repeat' first|simp only[go_sem, *]|apply bc<;>intro C|(refine zE.mono n ?_;rintro r h ⟨B,rfl⟩)
      subst B;exact L
     |false=>
      have h1:E=7:=by rw[o (by rw[k,A];decide),k,A];rfl
      subst h1;have B:=m H K;rw[A]at n;clear q o k m
      repeat' first|simp only[go_sem, *]|apply bc<;>intro C|refine zE.use n ?_
   |false=>
    subst U;rw[iq (by rw[wV];decide)]at k;cases A:(c.ls.any λx=>x.name==s)with
    |true=>
     have L:=q (by rw[k,A];rfl);rw[A]at n;clear q o k m
     repeat' first|simp only[go_sem, *]|apply bc<;>intro C|(refine zE.mono n ?_;rintro r h ⟨B,rfl⟩)
     subst B;exact L
    |false=>
     have h1:E=7:=by rw[o (by rw[k,A];decide),k,A];rfl
     subst h1;have B:=m H K;rw[A]at n;clear q o k m
     repeat' first|simp only[go_sem, *]|apply bc<;>intro C|refine zE.use n ?_
  ·clear I;rintro fr u ec ⟨Y,Z,ak,f64,a0,I,D⟩;have h1:E=0:=by rw[<-w];exact tZ D
   subst h1;have B:=m u I;clear D m w;exact au
def Rf(l:List Int):∀x∈wY l,x.length=1:=λx a=>by
 obtain⟨s,_,rfl⟩:=zM.1 a;rfl
def XQ(l:List Int):∀x∈wY l,wr x:=λx a=>by
 obtain⟨s,_,rfl⟩:=zM.1 a;exact⟨rfl,by simp[qO,below],rfl⟩
def ML(n:Int)(nid:Nat)(h:Heap):yB prog false nid 30 1 [(0,.int .i64 n)] h=some (.sl 1 [[.int .i64 n]] .full,h):=
 qW (P:=prog) (x:=.int .i64 n) qv rv sI rfl rfl ow ow rfl rfl
def Mw(c:Cat)(t:List (List (List Trm)))(o:List (List UInt8))(cs:List D):Prop:=∃td od a b e p,cs= [td,od,a,b,e,p]/\yi 1 (V5 t) td/\yi 1 (wn o) od/\uc c (.agg [a,b,e,p])
def Wc(c:Cat)(t:List (List (List Trm)))(o:List (List UInt8)):List Nat:=t.map List.length++o.map λ_=>c.ls.length
def aw(l:List Nat):List Int:=l.map λ(n:Nat)=>(n:Int)
def Re(l:List Int)(n:Int):wY (l++ [n])=wY l++wY [n]:=by simp[wY]
def BI(a b c d e f:D):yW true 6 [a,b,c,d,e,f] 0=some (.agg [a,b,c,d,e,f]):=zJ rfl ow
def K6{t:List (List (List Trm))}{o:List (List UInt8)}(S:Mw c t o cs)(hs:c.Sm)(V:t.length<=1048576)(U:o.length<=1048576)(g:Heap):
  zE prog 97 [.agg cs] g λr h'=>h'=g/\Fin 1 (wY (aw (Wc c t o))) r:=by
 obtain⟨td,od,a,b,e,p,rfl,B,I,R⟩:=S;obtain⟨_,_,_,_,H,v,_,_,_⟩:=R;cases H;have l1:=ja B;have l2:=wh I;have l3:=rS v;have K:=λ(x:List (List Trm)) (h:Heap)=>tn (l:=x.map mkA) (d:=Ql x) (yi.mk .no) h;have W:∀(x:List (List Trm))(h:Heap),mC prog 44 (Ql x) h=some (.int .i64 (x.length:Int)):=λx h=>by have:=K x h;rwa [zG]at this
 clear K;refine xU kr λJ=>xS ?_;refine xP λQ A=> ?_;have G:=Own.start (Ext.refl g) 1;refine zu zNE ?_;simp only[f97,zA];simp only[go_sem, *];refine zd (λi fr h=>∃s,fr 1=.iptr [td,od,a,b,e,p] 0/\fr 7=td/\fr 8=.int .i64 (t.length:Int)/\fr 9=.int .i64 (i:Int)/\fr 3=s/\Own g h 1 (wY (aw ((t.take i).map List.length))) s) t.length ow ?_ ?_ ?_
 ·simp only[go_sem,zT,zV,zI];exact⟨_,rfl,G⟩
 ·rintro i fr h q C M ⟨s,y,N,O,P,z,f⟩;have X:=V8 B q;have Y:=W t[i];have n:aw ((t.take (i+1)).map List.length)=aw ((t.take i).map List.length)++ [(t[i].length:Int)]:=by rw[zQ q,wH];simp only[aw,wH];rfl
  have k:(aw ((t.take i).map List.length)).length=i:=by simp[aw];omega
  rw[n];clear n;generalize t[i]=x at *
  generalize aw ((t.take i).map List.length)=pre at *
  have w:=ML (x.length:Int);have T:(Ql x).notTuple=true:=rfl;clear A B I v;simp only[go_sem, *];refine f.appH (ys:=wY [(x.length:Int)]) qv Z3 sI ow (Rf _) (by simp[wY]) (by rw[wI,lq,k];unfold lim;simp[wY];omega) (by rw[wI,k];unfold lim;simp[wY];omega) λL h' m=> ?_;rw[<-Re]at m;clear f;simp only[go_sem, *];exact⟨_,rfl,m⟩
 ·rintro fr h C ⟨s,y,N,O,P,z,f⟩;rw[z6]at f;have u:∀j,aw (t.map List.length++(o.take j).map λ_=>c.ls.length)=aw (t.map List.length)++aw ((o.take j).map λ_=>c.ls.length):=λj=>by simp[aw]
  simp only[go_sem, *];refine zd (λi fr h=>∃s,fr 1=.iptr [td,od,a,b,e,p] 0/\fr 20=od/\fr 21=.int .i64 (o.length:Int)/\fr 22=.int .i64 (i:Int)/\fr 3=s/\Own g h 1 (wY (aw (t.map List.length++(o.take i).map λ_=>c.ls.length))) s) o.length ow ?_ ?_ ?_
  ·have h0:Own g h 1 (wY (aw (t.map List.length++(o.take 0).map λ_=>c.ls.length))) s:=by simpa using f
   simp only[go_sem,zT,zV,zI];exact⟨s,y,z,h0⟩
  ·clear f;rintro i fr h q C M ⟨s,y,D,E,F,z,f⟩;have n:aw (t.map List.length++(o.take (i+1)).map λ_=>c.ls.length)=aw (t.map List.length++(o.take i).map λ_=>c.ls.length)++ [(c.ls.length:Int)]:=by rw[zQ q,wH,<-qh];simp only[aw,wH];rfl
   have k:(aw (t.map List.length++(o.take i).map λ_=>c.ls.length)).length=t.length+i:=by simp[aw];omega
   rw[n];clear n u;generalize aw (t.map List.length++(o.take i).map λ_=>c.ls.length)=pre at *
   have w:=ML (c.ls.length:Int);clear A B I v;simp only[go_sem, *];refine f.appH (ys:=wY [(c.ls.length:Int)]) qv Z3 sI ow (Rf _) (by simp[wY]) (by rw[wI,lq,k];unfold lim;simp[wY];omega) (by rw[wI,k];unfold lim;simp[wY];omega) λL h' m=> ?_;rw[<-Re]at m;clear f;simp only[go_sem, *];exact⟨_,rfl,m⟩
  ·clear f;rintro fr h C ⟨s,y,D,E,F,z,f⟩;rw[z6]at f;have hf:=f.2.1.fin (XQ _);have Z:=A s h ⟨f.1,qF (yC _) _ hf.1,hf.2⟩;clear A f hf u;exact au
def Hk:List Nat->Nat->Nat
 | [],n=>n
 |r::rs,n=>if n*r>4096 then n*r else Hk rs (n*r)
def L8(l:List Nat):Nat:=if l.any (· ==0)then 0 else Hk l 1
def JE{t:List (List (List Trm))}{o:List (List UInt8)}(M:Mw c t o cs)(O:c.Sm)(ad:t.length<=524288)(Y:o.length<=524288)(hr:∀x∈t,x.length<=1048576)(g:Heap):
  zE prog 51 [.agg cs] g λr h'=>h'=g/\r=.int .i64 ((L8 (Wc c t o):Nat):Int):=by
 have H:=K6 M O ow ow;obtain⟨td,od,a,b,e,p,rfl,ht,ho,u⟩:=M;have h6:=BI;have I:∀r∈Wc c t o,r<=1048576:=λr G=>by
  rcases yp.1 G with q|q
  ·obtain⟨x,P,rfl⟩:=zM.1 q;exact hr x P
  ·obtain⟨x,P,rfl⟩:=zM.1 q;exact O.ls.1
 have W:(Wc c t o).length<=1048576:=by simp[Wc];omega
 refine xP λQ V=> ?_;have f:=V _ _ ⟨rfl,rfl⟩;unfold L8 at f;generalize Wc c t o=L at *
 refine zu zMz ?_;simp only[f51,zA]
 repeat' first|simp only[go_sem, *]|apply bc<;>intro u
 refine(H _).mono ?_;rintro r h ⟨F,hf⟩;subst F;have k:=hf.isSl;have E:(aw L).length=L.length:=by simp[aw]
 have d:=Yy k ow 0;have l:=nQ k;rw[E]at l;have B:((aw L).any λx=>x==0)=L.any (· ==0):=by
  rw[aw,ZY];congr 1
  funext x
  exact Az x 0
 rw[B]at d;cases q:L.any (· ==0)with
 |true=>
  rw[ip q]at f;have Z:Q (.int .i64 0) h:=f;rw[q]at d
  repeat' first|simp only[go_sem, *]|apply bc<;>intro u|refine zE.use (d _) ?_
 |false=>
 rw[iq (by rw[q];exact zZ)]at f;rw[q]at d;obtain⟨R,J⟩:∃R,Hk L 1=R:=⟨_,rfl⟩;rw[J]at f
 repeat' first|simp only[go_sem, *]|apply bc<;>intro u|(refine zE.mono (d _) ?_;rintro r h ⟨F,rfl⟩)
 subst F
 rename Heap=>g
 refine zd (λi fr h=>∃n:Nat,fr 11=r/\fr 12=.int .i64 (L.length:Int)/\fr 13=.int .i64 (i:Int)/\fr 4=.int .i64 (n:Int)/\h=g/\n<=4096/\Hk (L.drop i) n=R) L.length ow ?_ ?_ ?_
 ·simp only[go_sem,zT,zV,zI];exact⟨1,rfl,by omega,J⟩
 ·rintro i fr h s T ew ⟨n,v,w,z,U,rfl,N,j⟩;have S:=gV k (show i<(aw L).length by omega);have D:(aw L)[i]'ow=((L[i]:Nat):Int):=by simp[aw]
  rw[D]at S;have A:=I _ (zH s);rw[yf s,Hk]at j;generalize L[i]=y at *
  have hm:n*y<=4096*1048576:=kE N A;have hw:IntKind.i64.wrap ((n:Int)*(y:Int))=((n*y:Nat):Int):=by rw[qU (by rw[<-ma];omega) (by rw[<-ma];omega),ma]
  generalize X:n*y=m at *
  by_cases K:m>4096
  ·have e1:decide ((m:Int)>4096)=true:=zS ow;rw[ip K]at j;subst j;exact au
  ·have e1:decide ((m:Int)>4096)=false:=zP ow;rw[iq K]at j;have C:m<=4096:=ow
   repeat' first|simp only[go_sem, *]|apply bc<;>intro u
   exact⟨m,rfl,C,j⟩
 ·rintro fr h T ⟨n,v,w,z,U,rfl,N,j⟩;rw[nw,Hk]at j;subst j;exact au
def zLq:Qg prog LN f153=true:=kr
def Kr(h0:ts≠[])(o:ts.length<=1048576)(g:Heap):
  zE prog 153 [(mkA ts).d] g λr h'=>h'=g/\r=(mkA ts).d:=by
 refine xU kr λk=>xS ?_;have c:Ext g g:=Ext.refl g;have j:(mkA ts).d=.sl 2 (wt ts) .no:=rfl;rw[j];have p:jI prog .eql 195 true (.sl 2 (wt ts) .no) .nilsl=some (.bool false):=by rw[tI (yi.mk .no) underlying195];rfl
 have t:=λnid h=>wc (P:=prog) (nid:=nid) (h:=h) uF sW uq rfl rfl (by omega:0<2);have i:qg prog false g.next 195 (.sl 2 [] .full) (.sl 2 (wt ts) .no) g=some (.sl 2 (wt ts) (.own g.next),g.new g.next .tok):=by
  rw[l8 uF Yg uq ow (pn ts) (by rw[kY,wl];unfold lim;omega) (by rw[wl];unfold lim;omega),iq (by rw[wl];exact λq=>h0 (yM.1 q))]
 have e:=c.new (zD _) .tok;have a:=yj (sz:=2) (xs:=wt ts) (λx l=>by
  obtain⟨y,_,rfl⟩:=zM.1 l;exact⟨rfl,by simp[Trm.cells,qO,below],rfl⟩) (.own g.next)
 have b:below g.next (qD (.sl 2 (wt ts) (.own g.next)))/\qD (.sl 2 (wt ts) (.own g.next))=.sl 2 (wt ts) .no:=⟨by rw[a.1];exact qF (yC _) _ a.2,a.1⟩;obtain⟨m,n⟩:=b;refine xP λQ f=> ?_;have s:=f _ _ ⟨e,m,n⟩;refine xO mix func153 zLq rfl rfl ?_;simp only[f153,zA];simp only[go_sem,zHe, *]
def nd(sz:Nat):List (List D)->D
 | []=>.nilsl
 |x::xs=>.sl sz (x::xs) .no
theorem aH{c:Cat} :∀{l:List Fac}{t:List (List (List Trm))}{o:List (List UInt8)},(dn c l t o).1.length<=t.length+l.length/\(dn c l t o).2.1.length<=o.length+l.length
 | [],t,o=>by rw[dn];simp
 |f::fs,t,o=>by
  rw[dn];split
  ·split
   ·have:=aH (c:=c) (l:=fs) (t:=t++ [ofL c f.e]) (o:=o);simp only[zR,zm,yo]at this⊢;omega
   ·simp
  ·split
   ·split
    ·have:=aH (c:=c) (l:=fs) (t:=t) (o:=o);simp only[zm];omega
    ·have:=aH (c:=c) (l:=fs) (t:=t) (o:=o++ [f.out]);simp only[zR,zm,yo]at this⊢;omega
   ·have:=aH (c:=c) (l:=fs) (t:=t) (o:=o);simp only[zm];omega
def ZQ{l:List Fac} :(yH c l).1.length<=l.length/\(yH c l).2.1.length<=l.length:=by
 unfold yH;split
 ·simp
 ·have:=aH (c:=c) (l:=l) (t:=[]) (o:=[]);simpa using this
def BF(c:Cat)(l:List Fac):Nat:=L8 (Wc c (yH c l).1 (yH c l).2.1)
def ql(c:Cat)(l:List Fac):Int:=if(!((yH c l).2.2==0))=true then(yH c l).2.2 else if decide ((BF c l:Int)>4096)=true then 10 else 0
abbrev Qd:List D:=[.nilsl,.nilsl,.nilsl,.nilsl,.nilsl,.nilsl]
def XT{a b e p:D}(h:uc c (.agg [a,b,e,p])):(a.flat=true/\b.flat=true)/\e.flat=true/\p.flat=true:=by
 obtain⟨_,_,_,_,d,f,g,i,j⟩:=h;cases d;exact⟨⟨(yP f).2.2,(yP g).2.2⟩,(yP i).2.2,(yP j).2.2⟩
def JF{a b e p:D}(h:uc c (.agg [a,b,e,p])):(a.cells= [a]/\b.cells= [b])/\e.cells= [e]/\p.cells= [p]:=by
 obtain⟨_,_,_,_,d,f,g,i,j⟩:=h;cases d;exact⟨⟨(yP f).1,(yP g).1⟩,(yP i).1,(yP j).1⟩
def Ku(j:uc c d)(I:c.Sm){l:List Fac}(W:yi 12 (mV l) x)(hl:l.length<=65536)(A:∀f∈l,f.Ok)(g:Heap):
  zE prog 50 [d,x] g λr h'=>Ext g h'/\∃cs,r=.tuple [.agg cs,.int .i64 (ql c l)]/\(cs.length=6/\cs.all D.flat=true)/\(ql c l=0->Mw c (yH c l).1 (yH c l).2.1 cs):=by
 have E:=UG j I W ow A;obtain⟨X,Y⟩:=ZQ (c:=c) (l:=l);have C:=λcs (w:Mw c (yH c l).1 (yH c l).2.1 cs)=>JE w I ow ow λa T=>zf (pc a T).1 ow;have k:=j;obtain⟨ca,cb,ce,cp,rfl,_,_,_,_⟩:=j;obtain⟨⟨N,O⟩,P,R⟩:=XT k;obtain⟨⟨Z,D2⟩,D3,D4⟩:=JF k;have h6:=BI;refine xP λQ z=> ?_;have U:qd prog 100 []=some (.agg Qd):=by simp[qd,Xp,Qe,ur,D.notTuple,D.cells]
 obtain⟨G,hG,L,y,n0⟩:∃G,g.new g.next (.row Qd)=G/\G.at' g.next=some (.row Qd)/\Ext g G/\g.next<G.next:=⟨_,rfl,z8 _ _ _,(Ext.refl g).new (zD _) _,by rw[za];omega⟩;have u:∀cs:List D,cs.length=6->cs.all D.flat=true->yX prog 100 (.ptr g.next 0) (.agg cs) G=some (G.set g.next (.row cs)):=λcs h1 S=>qp L (by rw[ZP,h1]) (by rw[h1];rfl) ow S;refine zu zMy ?_;simp only[f50,zA]
 repeat' first|simp only[go_sem, *]|apply bc<;>intro j
 refine(E _).mono ?_;rintro r h ⟨hq,td,od,rfl,o,n⟩;cases v:((yH c l).2.2==0)with
 |false=>
  have i:ql c l=(yH c l).2.2:=by unfold ql;rw[v];rfl
  have t:=u Qd rfl rfl;have q:=zW G g.next (.row Qd);have s:=z (.tuple [.agg Qd,.int .i64 (yH c l).2.2]) (G.set g.next (.row Qd)) ⟨y.set (zD _) _,Qd,by rw[i],⟨rfl,rfl⟩,λe=>by rw[i]at e;rw[e]at v;exact absurd v (by decide)⟩
  repeat' first|simp only[go_sem, *]|apply bc<;>intro j
 |true=>
 have V:qd prog 100 [(0,td),(1,od),(2,.agg [ca,cb,ce,cp])]=some (.agg [td,od,ca,cb,ce,cp]):=by
  rcases o.isSl with⟨rfl,_⟩ | ⟨_,rfl⟩ <;>rcases n.isSl with⟨rfl,_⟩ | ⟨_,rfl⟩ <;>simp[qd,Xp,Qe,ur,wo,D.cells,D.notTuple]
 have w:Mw c (yH c l).1 (yH c l).2.1 [td,od,ca,cb,ce,cp]:=⟨_,_,_,_,_,_,rfl,o.isSl,n.isSl,k⟩;have b:=C _ w;have m:([td,od,ca,cb,ce,cp]:List D).all D.flat=true:=by simp[(yP o.isSl).2.2,(yP n.isSl).2.2,N,O,P,R]
 have J:yX prog 100 (.ptr G.next 0) (.agg [td,od,ca,cb,ce,cp]) (G.new G.next (.row Qd))=some (G.new G.next (.row [td,od,ca,cb,ce,cp])):=qK ZP ow rfl rfl m;obtain⟨H,hH,r1,F,n1,M⟩:∃H,G.new G.next (.row [td,od,ca,cb,ce,cp])=H/\H.at' G.next=some (.row [td,od,ca,cb,ce,cp])/\Ext G H/\g.next<H.next/\H.at' g.next=some (.row Qd):=⟨_,rfl,z8 _ _ _,(Ext.refl G).new (zD _) _,by rw[za];omega,by rw[zi ow];exact L⟩;have p:L8 (Wc c (yH c l).1 (yH c l).2.1)=BF c l:=rfl;rw[p]at b;cases K:decide ((BF c l:Int)>4096)with
 |true=>
  have i:ql c l=10:=by unfold ql;rw[v,K];rfl
  have t:yX prog 100 (.ptr g.next 0) (.agg Qd) H=some (H.set g.next (.row Qd)):=qp M ZP rfl (by decide) rfl;have q:=zW H g.next (.row Qd);have s:=z (.tuple [.agg Qd,.int .i64 10]) (H.set g.next (.row Qd)) ⟨(y.trans F).set (zD _) _,Qd,by rw[i],⟨rfl,rfl⟩,λe=>by rw[i]at e;exact absurd e (by decide)⟩
  repeat' first|simp only[go_sem, *]|apply bc<;>intro j|(refine zE.mono (b _) ?_;rintro r h ⟨B,rfl⟩)
 |false=>
  have i:ql c l=0:=by unfold ql;rw[v,K];rfl
  have t:yX prog 100 (.ptr g.next 0) (.agg [td,od,ca,cb,ce,cp]) H=some (H.set g.next (.row [td,od,ca,cb,ce,cp])):=qp M ZP rfl (by simp) m;have q:=zW H g.next (.row [td,od,ca,cb,ce,cp]);have s:=z (.tuple [.agg [td,od,ca,cb,ce,cp],.int .i64 0]) (H.set g.next (.row [td,od,ca,cb,ce,cp])) ⟨(y.trans F).set (zD _) _,_,by rw[i],⟨rfl,m⟩,λ_=>w⟩
  repeat' first|simp only[go_sem, *]|apply bc<;>intro j|(refine zE.mono (b _) ?_;rintro r h ⟨B,rfl⟩)
def XA(c:Cat)(l:List Fac):D:=if(ql c l==0)=true then .tuple [.int .i64 (BF c l:Int),.int .i64 0]else .tuple [.int .i64 0,.int .i64 (ql c l)]
def Qz(i:uc c d)(t:c.Sm){l:List Fac}(F:yi 12 (mV l) x)(B:l.length<=65536)(o:∀f∈l,f.Ok)(g:Heap):
  zE prog 19 [d,x] g λr h'=>h'=g/\r=XA c l:=by
 have m:=Ku i t F B o;obtain⟨G,I⟩:=ZQ (c:=c) (l:=l);have j:=λcs (n:Mw c (yH c l).1 (yH c l).2.1 cs)=>JE n t ow ow λa z=>zf (pc a z).1 ow;have e:L8 (Wc c (yH c l).1 (yH c l).2.1)=BF c l:=rfl;rw[e]at j;obtain⟨ca,cb,ce,cp,rfl,_,_,_,_⟩:=i;refine xU kr λq=> ?_;refine xP λQ y=> ?_;have b:∀h',Ext g h'->Q (XA c l) h':=λh' A=>y _ _ ⟨A,by unfold XA;split<;>simp[below,qO],rfl⟩;unfold XA at b;refine zu zMt ?_;simp only[f19,zA]
 repeat' first|simp only[go_sem, *]|apply bc<;>intro i
 refine(m _).mono ?_;rintro r h ⟨w,cs,rfl,⟨k,cf⟩,n⟩;have u:yX prog 100 (.ptr h.next 0) (.agg cs) (h.new h.next (.row Qd))=some (h.new h.next (.row cs)):=qK ZP ow rfl k cf;obtain⟨H,J,r1,v⟩:∃H,h.new h.next (.row cs)=H/\H.at' h.next=some (.row cs)/\Ext h H:=⟨_,rfl,z8 _ _ _,(Ext.refl h).new (zD _) _⟩;have s:=b H (w.trans v);have C:lR prog 100 (.ptr h.next 0) H=some (.agg cs):=WM r1 BP (by rw[ZP,k]) ow;have E:yW true 6 cs 0=some (.agg cs):=zJ k ow;cases p:(ql c l==0)with
 |false=>
  rw[iq (by rw[p];exact zZ)]at s
  repeat' first|simp only[go_sem, *]|apply bc<;>intro i
 |true=>
  rw[ip p]at s;have D:=j cs (n (by simpa using p))
  repeat' first|simp only[go_sem, *]|apply bc<;>intro i|refine zE.use (D _) ?_
def Nj{l:List Fac}(h:ql c l=0):BF c l<=4096:=by
 unfold ql at h;split at h
 ·rename_i q;rw[h]at q;exact absurd q (by decide)
 ·split at h
  ·exact absurd h (by decide)
  ·rename_i q;simp at q;omega
def wX(p:Fac->Bool):List Fac->Nat->List Nat
 | [],_=>[]
 |f::fs,k=>if p f then k::wX p fs (k+1)else wX p fs (k+1)
theorem nP(p:Fac->Bool):∀(l m:List Fac)(k:Nat),wX p (l++m) k=wX p l k++wX p m (k+l.length)
 | [],m,k=>by simp[wX]
 |f::l,m,k=>by
  simp only[yE,wX,nP p l m (k+1),zm];rw[show k+1+l.length=k+(l.length+1) by omega];split<;>simp
theorem p4(p:Fac->Bool):∀(l:List Fac)(k:Nat),∀i∈wX p l k,k<=i/\i<k+l.length
 | [],k,i,h=>by simp[wX]at h
 |f::l,k,i,h=>by
  simp only[wX]at h;have a:=p4 p l (k+1);split at h
  ·rcases zw.1 h with rfl|h
   ·simp
   ·have:=a i h;simp;omega
  ·have:=a i h;simp;omega
def KQ(p:Fac->Bool)(l:List Fac)(i:Nat):Nat:=(wX p (l.take i) 0).length
def Jp{p:Fac->Bool}{l:List Fac}(h:i<l.length)(a:p l[i]=false):KQ p l (i+1)=KQ p l i:=by
 unfold KQ;rw[zQ h,nP];simp[wX,a]
def Gt{p:Fac->Bool}{l:List Fac}(h:i<l.length)(a:p l[i]=true):KQ p l (i+1)=KQ p l i+1/\(wX p l 0)[KQ p l i]? =some i:=by
 constructor
 ·unfold KQ;rw[zQ h,nP];simp[wX,a]
 ·unfold KQ;have e:l=l.take i++l[i]::l.drop (i+1):=by rw[List.getElem_cons_drop,qP]
  have e2:wX p l 0=wX p (l.take i) 0++wX p (l[i]::l.drop (i+1)) (0+(l.take i).length):=by
   rw[<-nP,<-e]
  rw[e2,yT (zD _),ln];have e3:(l.take i).length=i:=by rw[yR];omega
  simp[wX,a,e3]
def Gs{p:Fac->Bool}{l:List Fac} :KQ p l l.length=(wX p l 0).length:=by
 unfold KQ;rw[z6]
def ga(sc:List D)(kind:Int)(hf:D):D:=.fn (.func 365) [] [.iptr [.iptr sc 0] 0,.iptr [.int .i64 kind] 0,.iptr [hf] 0]
def aZ(sc:List D)(kind:Int){hf:D}(b:∃f a c,hf=.fn f a c)(h:Heap):zE prog 286 [.iptr sc 0,.int .i64 kind,hf] h λr h'=>h'=h/\r=ga sc kind hf:=by
 obtain⟨fr,a,c,rfl⟩:∃f a c,hf=.fn f a c:=b;refine zu zFu ?_;simp only[f286,zA];simp only[go_sem,ga]
theorem sj(p:Fac->Bool):∀(l:List Fac)(k:Nat),(wX p l k).length<=l.length
 | [],_=>zD _
 |f::l,k=>by
  simp only[wX];have:=sj p l (k+1);split<;>simp only[zm]<;>omega
def isF(kind:Int)(q:Fac->Bool)(f:Fac):Bool:=f.kind==kind&&q f
def fIx(kind:Int)(q:Fac->Bool)(fs:List Fac):List Nat:=wX (isF kind q) fs 0
abbrev elI(l:List Nat)(k:Nat):List D:=[.int .i64 ((l.getD k 0:Nat):Int)]
def fZ{hf:D}{q:Fac->Bool}(U:sc[4]? =some x)(hx:yi 12 (mV fs) x)(hl:fs.length<=1048576)(T:∀f∈fs,f.Ok){Y:Nat->(Nat->Prop)->Heap->Prop}
  (y:Yld prog id (fIx N q fs).length (elI (fIx N q fs)) Y λ_ _=>False)
  {S R:Nat->Prop} (hR:∀i,R i->i<h.next/\(¬S i\/∀k S h',Y k S h'->h'.at' i=h.at' i)) (hq:∀f∈fs,∀o:Heap,(∀i,R i->o.at' i=h.at' i)->Za prog hf [.agg f.cells] o λr h3=>h3=o/\r=.bool (q f)) (hY:Y 0 S h):
  zE prog 365 [.yld id,.iptr [.iptr sc 0] 0,.iptr [.int .i64 N] 0,.iptr [hf] 0] h λ_ h'=>∃S',(∀j,S' j->S j\/h.next<=j)/\But S h h'/\Y (fIx N q fs).length S' h':=by
 refine zu zGD ?_;simp only[f365,zA];have O:=pi hx;simp only[go_sem,qQ,U,O];refine qx (λi fr h'=>fr 0=.yld id/\fr 2=.iptr [.int .i64 N] 0/\fr 3=.iptr [hf] 0/\fr 10=x/\fr 11=.int .i64 fs.length/\fr 12=.int .i64 (i:Int)/\∃S',(∀j,S' j->S j\/h.next<=j)/\But S h h'/\Y (KQ (isF N q) fs i) S' h') fs.length ?_ ?_
 ·simp only[go_sem,zT,zV,zI];exact⟨S,λj n=>.inl n,But.refl S h,hY⟩
 rintro i fr h' X ⟨t,u,v,c,d,e,S',w,l,g⟩;simp only[go_sem,t,u,v,c,d,e];by_cases b:i<fs.length
 ·rw[zS (show(i:Int)<fs.length by exact_mod_cast b)];have Z:fs[i]∈fs:=zH b;have W:=tP hx b;have hw:yW true 12 fs[i].cells 0=some (.agg fs[i].cells):=zJ rfl ow;have C:=Vi (T _ Z);have m:Ext h' (h'.new h'.next (.row fs[i].cells)):=(Ext.refl h').new (zD _) _;have a:But S h (h'.new h'.next (.row fs[i].cells)):=l.trans (m.but S) λi X=>.inl X;have A:fs[i].cells[0]? =some (.int .i64 fs[i].kind):=rfl;have G:IntKind.i64.wrap ((i:Int)+1)=((i+1:Nat):Int):=qR (by unfold lim;omega);cases F:(fs[i].kind==N)with
  |false=>
   simp only[go_sem,t,u,v,c,d,e,W,hw,C,A,F,G,zT];refine⟨b,S',w,a,?_⟩;rw[Jp b (by simp[isF,F])];exact y.ext g m
  |true=>
   simp only[go_sem,t,u,v,c,d,e,W,hw,C,A,F];refine Za.mono (Q:=λr h3=>h3=h'.new h'.next (.row fs[i].cells)/\r=.bool (q fs[i])) ?_ (hq _ Z _ λj n=> ?_)
   rotate_left
   ·obtain⟨h1,o|o⟩:=hR j n
    ·exact a.2 j h1 o
    ·have:=l.1;rw[zi ow,o _ _ _ g]
   rintro r h3 ⟨rfl,rfl⟩;cases B:q fs[i]with
   |false=>
    simp only[go_sem,t,u,v,c,d,e,G,zT];refine⟨b,S',w,a,?_⟩;rw[Jp b (by simp[isF,B])];exact y.ext g m
   |true=>
    obtain⟨n1,n2⟩:=Gt (p:=isF N q) b (by simp[isF,F,B]);have P:=(zK.1 n2).1;have L:(fIx N q fs).getD (KQ (isF N q) fs i) 0=i:=by rw[zC,fIx,n2];rfl
    have z:=y.go _ S' _ P (y.ext g m);simp only[elI,L]at z;simp only[go_sem,t,u,v,c,d,e];refine z.mono ?_;rintro r h3 ⟨V,H,K,hr⟩;have s:But S h h3:=a.trans K w;have E:∀j,V j->S j\/h.next<=j:=λj n=>by
     rcases H j n with n|n
     ·exact w j n
     ·have h1:=a.1;exact .inr ow
    rcases hr with⟨rfl,I⟩ | ⟨rfl,J⟩
    ·simp only[go_sem,t,u,v,c,d,e,vun,G,zT];exact⟨b,V,E,s,by rw[n1];exact I⟩
    ·exact J.elim
 ·have M:i=fs.length:=ow;subst M;rw[zP ow];simp only[go_sem];rw[Gs]at g;exact⟨S',w,l,g⟩
end Go.V
