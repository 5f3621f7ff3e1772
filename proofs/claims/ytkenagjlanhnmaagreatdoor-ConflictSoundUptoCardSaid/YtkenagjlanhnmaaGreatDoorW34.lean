/- Rules of the machine of abstract values, part 10. No condition. -/
import Derived.Test.YtkenagjlanhnmaaGreatDoorW33
set_option linter.all false
set_option maxHeartbeats 8000000
namespace Go.V
open Go.Shelf Go.Proofs Go.Sort
open Go.RowKit (Below)
variable{α:Type}{id n i j:Nat}{g h0 h:Heap}{ts:List Trm}{d x y z:D}{S:Nat->Prop}{c:Cat}{e:Ex}{f:FuncId}{cap cs sc:List D}{fs:List Fac}{N:Int}
def WB [Inhabited α](enc:α->Value)(w:World)(a off m:Nat)(c:Array α)(d:Array Go.Obj):∀b,b≠a->b<w.heap.size->(sortWorld enc w a off m c d).heap[b]? =w.heap[b]? :=λb f g=>by
 show((putRow enc (Go.Sort.ahead w m) a off c).heap++d)[b]? =_;have h:(putRow enc (Go.Sort.ahead w m) a off c).heap.size=w.heap.size:=by simp[putRow,mapBlock,Go.Sort.ahead]
 rw[tP ow];show((Go.Sort.ahead w m).heap.modify a _)[b]? =_;rw[rK,iq (λe=>f e.symm)];rfl
section
variable{P:Program}{f cmp:FuncId}{β:Type}{dd:β->D}{xs:List β}{id:Nat}{pre post:List D}{h:Heap}{cf:β->β->Int}
abbrev V8(dd:β->D)(xs:List β)(M:Imm)(ρ:Ren):= {p:β×Value // p.1∈xs/\rel M ρ (dd p.1) p.2/\(dd p.1).flat=true}
theorem zD.of_sort1(h0:xs≠[])(he:rP P f=true)(a9:∀args w,(callFunc cmp args).run P w=.ok (.enter cmp args) w)
  (O:h.at' id=some (.row (pre++xs.map dd++post))) (hO:SWO (ltOf cf)) (a1:xs.length<4611686018427387904)
  (ai:∀x∈xs,∀y∈xs,∀H,zD P cmp [dd x,dd y] H λr H'=>H'=H/\r=.int .i64 (cf x y))
  (a2:∀(α:Type)[Inhabited α](enc:α->Value),OneCell enc->∀(cf:α->α->Int),SWO (ltOf cf)->∀(g:Nat)(cb:Array Value)(t off cap:Nat)(d:Array α)(w:World),
   (∀args w,(callFunc g args).run P w=.ok (.enter g args) w)->CmpLays1 P g cb enc cf t off d.size w->Go.Sort.Holds enc w t off d->t<w.heap.size->d.size<4611686018427387904->
   Calls P f #[.slice (some ⟨t,off,none⟩) d.size cap,.func (.func g) #[] cb] w λe w'=>e=.returned (.tuple #[])/\∃u n Z,PermIn 0 d.size d u/\SortedIn (ltOf cf) 0 d.size u/\w'=sortWorld enc w t off n u Z):
  zD P f [.rs id 1 pre.length xs.length,.fn (.func cmp) [] []] h λr h'=>r=.tuple []/\∃ys:List β,ys.Perm xs/\ys.Pairwise (λa b=>¬cf b a<0)/\h'=h.set id (.row (pre++ys.map dd++post)):=by
 refine⟨he,λw0 G M ρ w va L Q a0 hr=> ?_⟩;simp only[wG]at hr;obtain⟨v,ch,b2,W,v2,ck,rfl,a5,rfl⟩:=hr;simp only[rel,wG]at W a5;obtain⟨_,b5,l,cap,o,hl,rfl,⟨b6,b7⟩,cg,ho⟩:=W;obtain⟨_,fa,fc,rfl,bb,bk⟩:=a5;have ak:fa= #[]:=tU (by simpa using bb);have au:fc= #[]:=tU (by simpa using bk);subst ak au;have b3:0<xs.length:=zy.2 h0;have ho:o=pre.length:=by
  rcases ho with hz|ho
  .omega
  .exact ho
 subst ho;have a6:va= #[.slice (some ⟨l.blk,pre.length,none⟩) xs.length cap,.func (.func cmp) #[] #[]]:=tU (by simpa using b2);subst a6;obtain⟨l',h1,D,hM,c,e,hw,cc,b8,K⟩:=Q.live id _ O;rw[hl]at h1;cases h1;have ag:l.blk<w.heap.size:=(yF.1 hw).1;have a8:∀i (s:i<xs.length),(pre++xs.map dd++post)[pre.length+i]? =some (dd xs[i]):=λi s=>by
  rw[qV,yf ow,u0,yj (by simpa using s),zm,zB s];rfl
 have F:∀i (s:i<xs.length),∃v,c[pre.length+i]? =some v/\rel M ρ (dd xs[i]) v/\(dd xs[i]).flat=true:=λi s=>by
  obtain⟨h1,v,X,h3⟩:=K _ _ (a8 i s);exact⟨v,X,h3,h1⟩
 let mk:_root_.Fin xs.length->V8 dd xs M ρ:=λi=>⟨(xs[i.1],(F i.1 i.2).choose),zH i.2,(F i.1 i.2).choose_spec.2⟩
 letI:Inhabited (V8 dd xs M ρ):=⟨mk ⟨0,b3⟩⟩
 let enc:V8 dd xs M ρ->Value:=λp=>p.1.2
 have S:OneCell enc:=λp=>Zk p.2.2.1 p.2.2.2
 let d:Array (V8 dd xs M ρ):=Array.ofFn mk
 have R:d.size=xs.length:=by simp[d]
 have ba:∀i (s:i<xs.length),d[i]! =mk ⟨i,s⟩:=λi s=>by rw[wr d i (by rw[R];exact s)];simp[d]
 have aj:d.toList.map (λp=>p.1.1)=xs:=by
  apply oN;intro i;rw[zm,qA];by_cases s:i<xs.length
  .rw[to (by rw[R];exact s),zB s,qZ]
   simp[d,mk]
  .rw[sv ow,nD ow];rfl
 have a7:SWO (ltOf λp q:V8 dd xs M ρ=>cf p.1.1 q.1.1):=⟨λx=>hO.irrefl _,λx y z=>hO.trans _ _ _,λx y z=>hO.ntrans _ _ _⟩;have N:Go.Sort.Holds enc w l.blk pre.length d:=by
  intro j hj;rw[R]at hj;refine⟨?_,by simp[World.frozen?,hw]⟩;rw[ba _ hj];have W:=(F j hj).choose_spec.1;simp only[World.cell?,hw,tZ,zg,yp];exact W
 have U:CmpLays1 P cmp #[] enc (λp q=>cf p.1.1 q.1.1) l.blk pre.length d.size w:=by
  intro m Z J ca x y;have B:=WB enc w l.blk pre.length m J Z;have T:KT P (sortWorld enc w l.blk pre.length m J Z):=⟨λg Y=>by
   have X:=L.here Q.below Y;unfold Lib.TabIs World.var? at X⊢;rw[Y]at X⊢;simp only[sY]at X⊢;have C:=(L.1 g Y).1;rw[B g (λq=>D (q▸C)) (zl (w0.kept g C) Q.below.size)];exact X,λg Y=>by
   obtain⟨m,hm⟩:=L.max Q.below Y;have C:=(L.2 g Y).1;exact⟨m,(wa (w:=w) (B g (λq=>D (q▸C)) (zl (w0.kept g C) Q.below.size))).trans hm⟩⟩
  refine zD.stays (λH=>(ai x.1.1 x.2.1 y.1.1 y.2.1 H).mono λr H' hq=>hq.2) (λM ρ v W=>by simp only[rel]at W;exact W.1) (M:=M) (ρ:=ρ) (n:=h.next) (λb o v hb=> ?_) T a0 ?_
  .have b1:b≠l.blk:=λq=>by subst q;rw[hM o]at hb;cases hb
   rw[<-Q.imm b o v hb];exact wa (w:=w) (B b b1 (Q.lt hb))
  .show wG M ρ _ [_,_]
   simp only[wG];exact⟨_,_,rfl,x.2.2.1,_,_,rfl,y.2.2.1,rfl⟩
 have A:=a2 (V8 dd xs M ρ) enc S (λp q=>cf p.1.1 q.1.1) a7 cmp #[] l.blk pre.length cap d w a9 U N ag (by rw[R];exact a1);rw[R]at A;refine A.mono λe w' hq=> ?_;obtain⟨rfl,u,n,Z,k,E,rfl⟩:=hq;rw[<-R]at k;have a4:=PermIn.list k;have b9:u.size=xs.length:=by rw[k.1,R]
 have b4:(u.toList.map λp=>p.1.1).Perm xs:=by
  have q:=a4.map (λp=>p.1.1)
  rwa [aj]at q
 let I:V8 dd xs M ρ->zBH:=λp=>⟨(dd p.1.1,p.1.2),p.2.2.2⟩
 have a3:∀J:List (V8 dd xs M ρ),(J.map I).map (λq=>q.1.1)=(J.map λp=>p.1.1).map dd:=λJ=>by rw[wB,wB];rfl
 have bx:∀J:List (V8 dd xs M ρ),(J.map I).map (λq=>q.1.2)=J.map enc:=λJ=>by rw[wB];rfl
 have V:h.at' id=some (.row (pre++(d.toList.map I).map (λq=>q.1.1)++post)):=by rw[a3,aj];exact O
 have hS:=(Q.ahead n).putRow (α:=zBH) (enc:=λq=>q.1.2) (dd:=λq=>q.1.1) (λq=>q.2) V hl (ys:=u.toList.map I) (a4.map I).length_eq (λq hq=>by
  obtain⟨p,hp,rfl⟩:=zS.1 hq;exact p.2.2.1)
 have ad:=hS.grow Z;rw[ZF,jd,bx,a3,<-jd,Array.toArray_toList,<-ZF]at ad;refine⟨.tuple #[],M,ρ,.tuple [],_,rfl,MLe.refl _,RLe.refl _,ad,a0,by simp only[rel,wG];exact⟨#[],rfl,rfl⟩,rfl,u.toList.map (λp=>p.1.1),b4,?_,rfl⟩;rw[List.pairwise_map,tr];intro i j s hj bo;have bs:j<u.size:=by simpa using hj
 have:=E i j (yM _) bo ow;rw[wr u j bs,wr u i ow]at this;simpa [ltOf]using this
end
open Go.Proofs.Tryz
open Go.Proofs Go.Shelf Go.Sort
set_option maxRecDepth 100000
def Xt:QC uq where
 anti x y:=by unfold uq;(repeat' split)<;>omega
 trans x y z h1 h2:=by
  have e:∀a b:Int,uq a b<=0↔a<=b:=λa b=>by unfold uq;(repeat' split)<;>omega
  rw[e]at *;omega
def JR(x y:Int)(h:uq x y=0):x=y:=by unfold uq at h;(repeat' split at h)<;>omega
theorem W5:∀a b:List Trm,nf a b=Zl yk a b
 | [],[]=>rfl
 | [],_::_=>rfl
 |_::_,[]=>rfl
 |x::xs,y::ys=>by
  simp only[nf,Zl,Rw,W5 xs ys];by_cases h:yk x y=0<;>simp[h]
def mD(a b:List Trm):dT a b=Rw (uq a.length b.length) (Zl yk a b):=by
 unfold dT Rw;simp only[orL,W5];split
 .split
  .rename_i q;exact q.symm
  .rfl
 .rfl
def Xs:QC dT:=by
 have:=(Xt.key (γ:=List Trm) (λa=>(a.length:Int))).lex gf.list;exact⟨λx y=>by rw[mD,mD];exact this.anti x y,λx y z=>by rw[mD,mD,mD];exact this.trans x y z⟩
def To(x y:List Trm)(h:dT x y=0):x=y:=by
 rw[mD,Rw]at h;split at h
 .exact Ue bH _ _ h
 .rename_i q;exact absurd h q
def UB(l:List (List Trm)):(qT (l.map mkA)).flatten=l.map λa=>(mkA a).d:=by rw[pz,wB];rfl
variable{id:Nat}{h:Heap}{f:FuncId}
def AB{l:List (List Trm)}(h0:l≠[])(t:l.length<=1048576)(a:∀i∈l,i.length<=1048576)(b:g.at' id=some (.row (qT (l.map mkA)).flatten)):
  zD prog 332 [.rs id 1 0 l.length,.fn (.func 333) [] []] g λr h'=>r=.tuple []/\h'=g.set id (.row (qT ((srt dT l).map mkA)).flatten):=by
 have:=zD.of_sort1 (P:=prog) (f:=332) (cmp:=333) (dd:=λi=>(mkA i).d) (xs:=l) (id:=id) (pre:=[]) (post:=[]) (h:=g) (cf:=dT) h0 kr (enters_of func333 kr rfl) (by simpa [UB]using b) Xs.swo ow
  (λx q y s H=>Tt (yZ.mk .no) (yZ.mk .no) (a x q) (a y s) H) (λα _ enc h1 cf k g cb c off cap d w o n j m e=>Any.slices_SortFunc Tryz.sortAlt enc h1 cf k g cb c off cap d w o n j m e)
 refine this.mono λr h' ⟨e1,ys,p,e,e2⟩=>⟨e1,?_⟩;rw[e2,Mb Xs To p e,UB];simp
open Go.Proofs
def nY(ts:List Trm):List Trm:=cpt yk (srt yk ts)
def gY(out:List (List Trm))(a:List Trm):List (List Trm):=if(out.any λb=>cy a b)=true then out else out++ [a]
def jw(l:List (List Trm)):Nat->List (List Trm)
 |0=>[]
 |n+1=>match l[n]? with
  |none=>jw l n
  |some a=>gY (jw l n) a
def pb(l:List (List Trm)):List (List Trm):=srt dT (l.map nY)
def wm(l:List (List Trm)):List (List Trm):=jw (pb l) (pb l).length
def MJ(h:ts≠[]):nY ts≠[]:=λe=>by
 have h1:0<(srt yk ts).length:=by rw[(sD ts).length_eq];exact zy.2 h
 have:=UP (c:=yk) h1 _ (zC _) h1;rw[show ur yk (srt yk ts) (srt yk ts).length=nY ts from rfl,e]at this
 grind
def R8(a:List Trm):(nY a).length<=a.length:=by
 exact(by rw[<-(sD (c:=yk) a).length_eq];exact jA _)
theorem MF(h:ts≠[])(a:ts.length<=4096):(mkA ts).Ok:=⟨yZ.mk .no,h,a⟩
theorem gZ{l:List (List Trm)} :∀n,∀x∈jw l n,x∈l
 |0,x,h=>by cases h
 |n+1,x,h=>by
  rw[jw]at h;split at h
  .exact gZ n x h
  .rename_i a e
   unfold gY at h;split at h
   .exact gZ n x h
   .rcases qB.1 h with h|h
    .exact gZ n x h
    .grind
theorem Xj{l:List (List Trm)} :∀n,(jw l n).length<=n
 |0=>zC _
 |n+1=>by
  have a:=Xj (l:=l) n
  grind [jw,gY]
def R3{l:List (List Trm)}{x:List Trm}(h:x∈wm l):∃y∈l,x=nY y:=by
 have:=ZN.1 (gZ _ x h)
 grind
theorem Y1{l:List Alt}(hd:yZ 1 (qT l) d)(h0:l≠[])(hl:l.length<=1048576)(J:∀a∈l,a.Ok)(g:Heap):
  zD prog 252 [d] g λr h'=>h'=g/\Fin 1 (qT ((wm (l.map Alt.ts)).map mkA)) r:=by
 refine xU kr λb5=>xS ?_;have b4:=uh hd;refine xP λQ hQ=> ?_;have b7:=Own.start (Ext.refl g) 1;refine zj zKa ?_;simp only[f252,zA]
 repeat' first|simp only[go_sem, *]|apply bc<;>intro w
 refine zY (λi fr h=>∃s,fr 10=d/\fr 11=.int .i64 (l.length:Int)/\fr 12=.int .i64 (i:Int)/\fr 3=s/\Yg g h 1 (qT (((l.take i).map λa=>nY a.ts).map mkA)) s) l.length ow ?_ ?_ ?_
 .have X:=Yg.start (Ext.refl g) 1
  simp only[go_sem,zM,zV,zG];exact⟨_,rfl,X⟩
 .rintro i fr h q e1 ew ⟨s,ad,ag,ai,f3,A⟩
  have a1:=p4 hd q;obtain⟨o1,o2,o3⟩:=J _ (zH q);have b2:(l.take (i+1)).map (λa=>nY a.ts)=(l.take i).map (λa=>nY a.ts)++ [nY l[i].ts]:=by rw[zP q,wD];rfl
  have S:((l.take i).map λa=>nY a.ts).length=i:=by rw[zI,yB];omega
  rw[b2];generalize l[i]=a at *
  generalize(l.take i).map (λa=>nY a.ts)=pre at *
  obtain⟨k1,k2,k3⟩:=zw o1;have a6:=λh=>Kl o1 o2 ow h;have B:=λ(H:Heap) (hr:H.at' h.next=some (.row (wj a.ts).flatten))=>AE (id:=h.next) o2 ow hr;have ba:srt yk a.ts≠[]:=λe=>o2 (ye.1 (by rw[<-(sD (c:=yk) a.ts).length_eq,e];rfl));have bb:(srt yk a.ts).length=a.ts.length:=(sD a.ts).length_eq;have O:=λ(H:Heap) (hr:H.at' h.next=some (.row (wj (srt yk a.ts)).flatten))=>Q1 (id:=h.next) ba ow hr;rw[bb]at O;have ca:D.sl 2 (wj (cpt yk (srt yk a.ts))) .no=(mkA (nY a.ts)).d:=rfl
  repeat' first|simp only[go_sem, *]|apply bc<;>intro w|(refine zD.mono (a6 _) ?_;rintro r h ⟨rfl,rfl⟩)
  refine(B _ (z5 _ _ _)).mono ?_;rintro r j ⟨rfl,rfl⟩
  repeat' first|simp only[go_sem, *]|apply bc<;>intro w
  refine(O _ (zW _ _ _)).mono ?_;rintro r j ⟨rfl,rfl⟩;have hE:Ext h (((h.new h.next (.row (wj a.ts).flatten)).set h.next (.row (wj (srt yk a.ts)).flatten)).del h.next):=(((Ext.refl h).new (zC _) _).set (zC _) _).del (zC _);generalize((h.new h.next (.row (wj a.ts).flatten)).set h.next (.row (wj (srt yk a.ts)).flatten)).del h.next=H at *
  have bx:=A.ext hE;obtain⟨d',G,a4,bs,b3⟩:=bx.app (P:=prog) (ys:=qT [mkA (nY a.ts)]) (tk:=.full) uG pR uK ow (λcs=>X2 underlying195) (sO _) (sO _) (by simp[qT]) (by rw[yr,zI,S,tF];unfold lim;simp[qT];omega) (by rw[yr,zI,S];unfold lim;simp[qT];omega);have U:=cQ (mkA (nY a.ts)).d H.next H rfl rfl rfl;have C:qT [mkA (nY a.ts)]= [[(mkA (nY a.ts)).d]]:=rfl;rw[C]at a4 b3;have m:Yg g G 1 (qT ((pre++ [nY a.ts]).map mkA)) d':=by
   rw[wD]
   have:qT (pre.map mkA++List.map mkA [nY a.ts])=qT (pre.map mkA)++qT [mkA (nY a.ts)]:=by simp[qT]
   rw[this];exact bs
  repeat' first|simp only[go_sem, *]|apply bc<;>intro w
  exact⟨_,rfl,m⟩
 .rintro fr h e1 ⟨s,ad,ag,ai,f3,A⟩
  rw[yC]at A;have hS:srt dT (l.map λa=>nY a.ts)=pb (l.map Alt.ts):=by rw[pb,wB];rfl
  have a3:(pb (l.map Alt.ts)).length=l.length:=by rw[<-hS,(sD _).length_eq,zI]
  have a8:l.map (λa=>nY a.ts)≠[]:=by simp[h0]
  have F:(l.map λa=>nY a.ts).length=l.length:=zI ..;have v:∀M∈pb (l.map Alt.ts),M≠[]/\M.length<=4096:=λM h=>by
   rw[<-hS]at h;obtain⟨a,ha,rfl⟩:=zS.1 (ZN.1 h);exact⟨MJ (J a ha).ne,zb (R8 _) (J a ha).len⟩
  have a7:∀M∈l.map (λa=>nY a.ts),M.length<=1048576:=λM h=>by
   have:=(v M (by rw[<-hS];exact ZN.2 h)).2;omega
  obtain⟨Z,w⟩:=A;rcases w with⟨_,e⟩ | ⟨id,rfl,W,hid,R,_⟩
  .exact absurd (by simpa [qT]using e) h0
  have C:(qT ((l.map λa=>nY a.ts).map mkA)).length=l.length:=by rw[yr,zI,F]
  rw[C]at f3;have B:=AB a8 ow a7 W;have T:wm (l.map Alt.ts)=jw (pb (l.map Alt.ts)) (pb (l.map Alt.ts)).length:=rfl;rw[T]at hQ;rw[F,hS]at B;generalize pb (l.map Alt.ts)=L at *
  have E0:Ext g (h.set id (.row (qT (L.map mkA)).flatten)):=Z.set hid _;have a2:∀r h',Ext g h'->below g.next (qM r)->Fin 1 (qT ((jw L L.length).map mkA)) (qM r)->Q r h':=λr h' q1 q2 q3=>hQ r h' ⟨q1,q2,q3⟩
  repeat' first|simp only[go_sem, *]|apply bc<;>intro w|(refine zD.mono B ?_;rintro r h ⟨rfl,rfl⟩)
  have r0:(h.set id (.row (qT (L.map mkA)).flatten)).at' id=some (.row (qT (L.map mkA)).flatten):=zW _ _ _;have E:id<(h.set id (.row (qT (L.map mkA)).flatten)).next:=R;generalize h.set id (.row (qT (L.map mkA)).flatten)=H at *
  have cc:=λ(h:Heap)=>oz (P:=prog) (t:=44) (sz:=1) (id:=id) (off:=0) (len:=l.length) (h:=h) underlying44
  repeat' first|simp only[go_sem, *]|apply bc<;>intro w
  refine zY (λi fr h=>∃o,fr 28=.rs id 1 0 l.length/\fr 29=.int .i64 (l.length:Int)/\fr 30=.int .i64 (i:Int)/\fr 7=o/\Own H h 1 (qT ((jw L i).map mkA)) o) l.length ow ?_ ?_ ?_
  .have X:=Own.start (Ext.refl H) 1
   simp only[go_sem,zM,zV,zG];exact⟨_,rfl,X⟩
  .rintro i fr j q ec ew ⟨o,aj,ak,a0,f7,A⟩
   have u:i<L.length:=ow;have a1:=qX (P:=prog) (sz:=1) (id:=id) uG uK (k:=.i64) q;have b1:j.at' id=some (.row (qT (L.map mkA)).flatten):=by rw[A.1.2 _ E];exact r0
   have b8:(qT (L.map mkA)).flatten[i*1]? =some (mkA L[i]).d:=by rw[UB,wn,zm,zB u];rfl
   obtain⟨m1,m2⟩:=v L[i] (zH u);have a9:jw L (i+1)=gY (jw L i) L[i]:=by rw[jw,zB u]
   have Y:∀x∈jw L i,x≠[]/\x.length<=4096:=λx Z=>v x (gZ i x Z);have F:=Xj (l:=L) i;rw[a9];generalize L[i]=a at *
   generalize jw L i=out at *
   have cb:j.next<(j.new j.next (.row [(mkA a).d])).next:=by rw[za];omega
   have V:(j.new j.next (.row [(mkA a).d])).at' j.next=some (.row [(mkA a).d]):=z5 _ _ _;have b6:yW prog 195 (.ptr j.next 0) (mkA a).d (j.new j.next (.row [.nilsl]))=some (j.new j.next (.row [(mkA a).d])):=by
    rw[yN (z5 _ _ _) uK jS rfl rfl,cO];rfl
   have I:=A.ext ((Ext.refl j).new (zC _) (.row [(mkA a).d]));have n:=gH (l:=out.map mkA) (d:=o) I.isSl (by rw[zI];omega) (f:=334) (cap:=[.ptr j.next 0]) (p:=λb=>cy a b.ts) (g:=j.new j.next (.row [(mkA a).d])) (λs X=>by
    obtain⟨y,hy,rfl⟩:=zS.1 X;obtain⟨n1,n2⟩:=Y y hy;exact⟨(MF n1 n2).sl,zCT (MF m1 m2) (MF n1 n2) V⟩)
   have N:(out.map mkA).any (λb=>cy a b.ts)=out.any λb=>cy a b:=by rw[ZV];rfl
   rw[N]at n;have a5:(mkA a).d.cells= [(mkA a).d]/\(mkA a).d.notTuple=true:=⟨rfl,rfl⟩;obtain⟨k1,k2⟩:=a5;cases hb:(out.any λb=>cy a b)with
   |true=>
    have K:gY out a=out:=ip hb;rw[K];rw[hb]at n;generalize j.new j.next (.row [(mkA a).d])=h3 at *
    repeat' first|simp only[go_sem, *]|apply bc<;>intro w|refine zD.use n ?_
    exact⟨_,rfl,I⟩
   |false=>
    have K:gY out a=out++ [a]:=iq (by rw[hb];exact zd);rw[K];rw[hb]at n;have U:=λnid h=>cQ (mkA a).d nid h rfl rfl rfl;have b9:kT prog 195 (.ptr j.next 0) (j.new j.next (.row [(mkA a).d]))=some (mkA a).d:=by
     simp only[go_sem,V]
    generalize j.new j.next (.row [(mkA a).d])=h3 at *
    repeat' first|simp only[go_sem, *]|apply bc<;>intro w|refine zD.use n ?_
    refine I.appH (ys:=qT [mkA a]) uG pR uK ow (sO _) (by simp[qT]) (by rw[yr,zI,tF];unfold lim;simp[qT];omega) (by rw[yr,zI];unfold lim;simp[qT];omega) λd' h' bk=> ?_;have bo:Own H h' 1 (qT ((out++ [a]).map mkA)) d':=by
     rw[wD]
     have:qT (out.map mkA++List.map mkA [a])=qT (out.map mkA)++qT [mkA a]:=by simp[qT]
     rw[this];exact bk
    repeat' first|simp only[go_sem, *]|apply bc<;>intro w
    exact⟨_,rfl,bo⟩
  .rintro fr j ec ⟨o,aj,ak,a0,f7,A⟩
   have m:=A.2.1.fin (λx Z=>by
    obtain⟨y,hy,rfl⟩:=zS.1 Z;obtain⟨z,_,rfl⟩:=zS.1 hy;exact bf z)
   have hq:=a2 o j (E0.trans A.1) (qQ (yM _) _ m.1) (by rw[a3];exact m.2);exact au
noncomputable def AN:Cfg:=⟨λt=>List.contains (α:=Nat) [22] t,λi=>(VI (α:=List (Nat×Fl)) [] i).getD []⟩
def zOP(t:Tmp):AN.mu t=List.contains (α:=Nat) [22] t:=(rfl)
def zOv:Pb prog AN f385=true:=kr
noncomputable def AM:Cfg:=⟨λt=>List.contains (α:=Nat) [33] t,λi=>(VI (α:=List (Nat×Fl)) [] i).getD []⟩
def C9(t:Tmp):AM.mu t=List.contains (α:=Nat) [33] t:=(rfl)
def zOu:Pb prog AM f338=true:=kr
def Bm(h0:0<n)(k:n<=1048576)(h:Heap):
  zD prog 385 [.nilsl,.int .i64 n] h λr h'=>∃xs:List D,xs.length=n*2/\r=.rs h.next 2 0 0/\h'=h.new h.next (.row xs):=by
 have e1:decide ((n:Int)<0)=false:=zN ow;have e2:IntKind.i64.wrap (0-0)=0:=rfl;have e3:IntKind.i64.wrap ((n:Int)-0)=n:=by rw[qP ow ow];omega
 have c:decide ((n:Int)>0)=true:=zR ow;have d:uN prog 195 .nilsl none (some (.int .i64 0)) none h=some .nilsl:=by
  simp[uN,cz,fG,wp,uO,s8,VA,Te]
 have e:nz prog true h.next 195 3 .nilsl (.int .i64 n) h=some (.rs h.next 2 0 n,h.new h.next (.row (mw n [.str [],.str []]))):=by
  have j:n*32<=lim:=jL;have a:n<=lim:=jL;simp only[nz,underlying3,wp,sH,uO,kA,wV,D.notTuple,D.cells];rw[ip (by simp[j,a,h0]),sV underlying197]
 have f:uN prog 195 (.rs h.next 2 0 n) none (some (.int .i64 0)) none (h.new h.next (.row (mw n [.str [],.str []])))=some (.rs h.next 2 0 0):=
  nT (n:=0) cz wp uO ow
 have i:∀h:Heap,o9 prog 195 .nilsl h=some (.int .i64 0):=λh=>wL (sz:=2) yZ.nil underlying195;refine xO mix func385 zOv rfl rfl ?_;simp only[f385,zA];simp only[go_sem,zOP,e1,e2,e3,c,Gi underlying195,i,d,e,f,Option.map_none,qZ,qD,Int.natCast_zero,zG];refine⟨mw n [.str [],.str []],?_,rfl⟩
 have:∀m,(mw m [D.str [],D.str []]).length=m*2:=λm=>by
  induction m with
  |zero=>rfl
  |succ m b=>
   change (List.replicate m [D.str [],D.str []]).flatten.length=_ at b;change (List.replicate (m+1) [D.str [],D.str []]).flatten.length=_;rw[tH,yT,zQ,b];simp;omega
 exact this n
def zB8(h0 h:Heap)(l:List Trm)(d:D):Prop:=Ext h0 h/\∃id xs,d=.rs id 2 0 l.length/\h.at' id=some (.row xs)/\h0.next<=id/\id<h.next/\l.length*2<=xs.length/\xs.take (l.length*2)=(wj l).flatten
def I5(l:List Trm):(wj l).flatten.length=l.length*2:=by rw[uP (pQ l),wc]
def Gj{l c:List Trm}{d g:D}(v:zB8 h0 h l d)(n:yZ 2 (wj c) g)(E:l.length<=1048576)(z:c.length<=1048576):
  ∃r h',qS prog true h.next 195 d g (tT d g h)=some (r,h')/\zB8 h0 h' (l++c) r:=by
 obtain⟨k,id,xs,rfl,hid,w,B,A,q⟩:=v;have u:(l.length+c.length)*32<=lim:=jL;have m:l.length+c.length<=lim:=jL;have C:∀a:Heap,TR 2 g a=some (wj c).flatten:=λa=>by
  rcases n with⟨rfl,p⟩ | ⟨tk,rfl⟩
  .have:c= []:=uR.1 p
   subst this;rfl
  .simp only[TR,qF]
 have f:(xs.take (l.length*2)).length=l.length*2:=by rw[yB];omega
 have b:=I5 c;have key:∀a:Heap,a.at' id=some (.row (xs.take (l.length*2)))->qS prog true h.next 195 (.rs id 2 0 l.length) g a=some (.rs h.next 2 0 (l.length+c.length),(a.del id).new h.next (.row (xs.take (l.length*2)++(wj c).flatten))):=λa e=>by
  simp only[qS,wp,Ye,uO,qF,C,b,ue _ (show 0<2 by omega),tB,kA,uT];rw[ip (by simp[u,m]),e];simp only[];rw[ip (by rw[f])]
 obtain⟨a,e1,e2,e3,t⟩:∃a,tT (.rs id 2 0 l.length) g h=a/\a.next=h.next/\(∀j,j≠id->a.at' j=h.at' j)/\a.at' id=some (.row (xs.take (l.length*2))):=by
  by_cases s:l.length*2<xs.length
  .refine⟨h.set id (.row (xs.take (l.length*2))),?_,rfl,λj y=>by simp[Heap.set,y],zW _ _ _⟩
   rcases n with⟨rfl,p⟩ | ⟨tk,rfl⟩ <;>simp[tT,hid,s]
  .have q:xs.take (l.length*2)=xs:=yP ow
   refine⟨h,?_,rfl,λ_ _=>rfl,by rw[q];exact hid⟩;rcases n with⟨rfl,p⟩ | ⟨tk,rfl⟩ <;>simp[tT,hid,s]
 have o:Ext h0 a:=⟨by rw[e2];exact k.1,λi x=>by rw[e3 i ow];exact k.2 i x⟩;rw[e1,key a t];refine⟨_,_,rfl,(o.del w).new k.1 _,h.next,_,by rw[zQ],z5 _ _ _,k.1,?_,?_,?_⟩
 .have:(a.del id).next=a.next:=rfl
  simp only[Heap.new,this,e2];omega
 .rw[zQ,zQ,f,b];omega
 .rw[q,Gu,yP (by rw[zQ,zQ,I5,b];omega)]
theorem Km{a b:Alt}(Y:a.Ok)(Z:b.Ok)(g:Heap):
  zD prog 338 [.sl 1 [[a.d],[b.d]] .full] g λr h'=>h'=g/\r=(mkA (a.ts++b.ts)).d:=by
 obtain⟨P,Q,a3⟩:=Y;obtain⟨R,b2,b3⟩:=Z;have aj:0<a.ts.length:=zy.2 Q;refine xU kr λai=> ?_
 suffices hh:zD prog 338 [.sl 1 [[a.d],[b.d]] .full] g λr h'=>zB8 g h' (a.ts++b.ts) r by
  refine zD.freezeD (hh.mono ?_);rintro r h' ⟨X,id,xs,rfl,hid,hg,q,ad,ht⟩;refine⟨id,xs,hid,X.del hg,?_⟩;rw[XN (xs:=wj (a.ts++b.ts)) (rest:=xs.drop ((a.ts++b.ts).length*2)) (pQ _) (wc _) (by rw[<-ht,qg])];exact⟨H9 _ _,rfl⟩
 obtain⟨M,o,p,u⟩:∃M:Nat->Nat,M 0=0/\M 1=a.ts.length/\M 2=a.ts.length+b.ts.length:=⟨λi=>if i=0 then 0 else if i=1 then a.ts.length else a.ts.length+b.ts.length,rfl,rfl,rfl⟩
 obtain⟨L,c,j,m⟩:∃L:Nat->List Trm,L 0= []/\L 1=a.ts/\L 2=a.ts++b.ts:=⟨λi=>if i=0 then []else if i=1 then a.ts else a.ts++b.ts,rfl,rfl,rfl⟩
 obtain⟨k,e,f⟩:∃k:Nat->Alt,k 0=a/\k 1=b:=⟨λi=>if i=0 then a else b,rfl,rfl⟩
 have ag:∀h:Heap,o9 prog 44 (.sl 1 [[a.d],[b.d]] .full) h=some (.int .i64 2):=λh=>wL (yZ.mk .full) underlying44;have A:∀i:Nat,i<2->yc prog 44 (.sl 1 [[a.d],[b.d]] .full) (.int .i64 (i:Int))=some (.iptr [(k i).d] 0)/\yZ 2 (wj (k i).ts) (k i).d/\M (i+1)=M i+(k i).ts.length/\L (i+1)=L i++(k i).ts/\(L i).length<=8192/\(k i).ts.length<=8192/\M i<=8192:=λi hi=>by
  rcases i with _|_|i
  .refine⟨yR (yZ.mk .full) uG uK (by rw[e];rfl),by rw[e];exact P,by rw[o,e,p];omega,by rw[c,j,e];rfl,by rw[c];simp,by rw[e];omega,ow⟩
  .refine⟨yR (yZ.mk .full) uG uK (by rw[f];rfl),by rw[f];exact R,by rw[p,f,u],by rw[j,m,f],by rw[j];omega,by rw[f];omega,by show M 1<=8192;omega⟩
  .omega
 clear e f;refine xO mix func338 zOu rfl rfl ?_;simp only[f338,zA]
 repeat' first|simp only[go_sem,C9, *]|apply bc<;>intro w
 refine zY (λi fr h=>fr 0=.sl 1 [[a.d],[b.d]] .full/\fr 9=.sl 1 [[a.d],[b.d]] .full/\fr 10=.int .i64 2/\fr 11=.int .i64 (i:Int)/\fr 3=.int .i64 ((M i:Nat):Int)/\h=g) 2 ow ?_ ?_ ?_
 .simp only[go_sem,zM,zV,zG,C9,o]
 .rintro i fr h q e1 S ⟨T,V,E,s,U,rfl⟩
  obtain⟨x1,B,C,D,x5,x6,x7⟩:=A i q;have N:=uI B;have hw:IntKind.i64.wrap (((M i:Nat):Int)+(((k i).ts.length:Nat):Int))=((M (i+1):Nat):Int):=by rw[C,qP ow ow];omega
  have O:decide (((M (i+1):Nat):Int)<0)=false:=zN ow;have e2:decide ((i:Int)<2)=true:=e1;clear C D A o p u
  repeat' first|simp only[go_sem,C9, *]|apply bc<;>intro w
 .rintro fr h e1 ⟨T,V,E,s,U,rfl⟩
  have e2:decide ((((2:Nat):Int))<2)=false:=rfl;have z:=Bm (n:=M 2) ow ow h;have J:fr 11=.int .i64 2:=s;clear e1 s o p u
  repeat' first|simp only[go_sem,C9, *]|apply bc<;>intro w
  refine z.mono ?_;rintro r W ⟨xs,ak,rfl,rfl⟩;have y:zB8 h (h.new h.next (.row xs)) (L 0) (.rs h.next 2 0 0):=⟨(Ext.refl h).new (zC _) _,h.next,xs,by rw[c];rfl,z5 _ _ _,zC _,by rw[za];omega,by rw[c];simp,by rw[c];rfl⟩;generalize h.new h.next (.row xs)=W at *
  clear z
  repeat' first|simp only[go_sem,C9, *]|apply bc<;>intro w
  refine zY (λi fr I=>fr 25=.sl 1 [[a.d],[b.d]] .full/\fr 26=.int .i64 2/\fr 27=.int .i64 (i:Int)/\zB8 h I (L i) (fr 6)) 2 ow ?_ ?_ ?_
  .simp only[go_sem,zM,zV,zG,C9]
   exact y
  .rintro i l I q e1 S ⟨F,G,t,v⟩
   obtain⟨d,H⟩:∃x,l 6=x:=⟨_,rfl⟩;rw[H]at v;obtain⟨x1,B,C,D,x5,x6,x7⟩:=A i q;obtain⟨d',h5,k1,k2⟩:=Gj v B ow ow;rw[<-D]at k2;have e2:decide ((i:Int)<2)=true:=e1;obtain⟨q1,q2,q3⟩:=zw B;clear C D A c j m v y
   repeat' first|simp only[go_sem,C9, *]|apply bc<;>intro w
  .rintro l I e1 ⟨F,G,t,v⟩
   have e2:decide ((((2:Nat):Int))<2)=false:=rfl;have K:l 27=.int .i64 2:=t;rw[m]at v;obtain⟨d,H⟩:∃x,l 6=x:=⟨_,rfl⟩;rw[H]at v;clear e1 t A c j m
   repeat' first|simp only[go_sem,C9, *]|apply bc<;>intro w
def Zn(a b:List Alt)(k:Nat):List Trm:=(a.getD (k/b.length) (mkA [])).ts++(b.getD (k%b.length) (mkA [])).ts
def bj(a b:List Alt):List (List Trm):=(List.range (a.length*b.length)).map (Zn a b)
def ID{a b:List Alt}(d:i<a.length)(c:j<b.length):Zn a b (i*b.length+j)=a[i].ts++b[j].ts:=by
 unfold Zn;rw[show(i*b.length+j)/b.length=i by rw[gB,Nat.mul_add_div ow,Nat.div_eq_of_lt c];rfl,show(i*b.length+j)%b.length=j by rw[gB,Nat.mul_add_mod,jj c]];simp[d,c]
theorem VQ(a b:List Alt):(bj a b).length=a.length*b.length:=by simp[bj]
def Bv{a b:List Alt}(d:yZ 1 (qT a) x)(c:yZ 1 (qT b) y)(g:Heap):zD prog 254 [x,y] g λr h'=>h'=g/\r=.fn (.func 337) [] [.iptr [x] 0,.iptr [y] 0]:=by
 refine zj zKc ?_;simp only[f254,zA];rcases d with⟨rfl,_⟩ | ⟨_,rfl⟩
 .rcases c with⟨rfl,_⟩ | ⟨_,rfl⟩
  .exact au
  .exact au
 .rcases c with⟨rfl,_⟩ | ⟨_,rfl⟩
  .exact au
  .exact au
def GQ{a b:List Alt}(C:yZ 1 (qT a) x)(D:yZ 1 (qT b) y)(N:∀q∈a,q.Ok)(O:∀q∈b,q.Ok)(a0:a.length<=4096)(a2:b.length<=4096){Y:Nat->(Nat->Prop)->Heap->Prop}(E:Yld prog id (a.length*b.length) (λk=>[(mkA (Zn a b k)).d]) Y λ_ _=>False){w:Heap}(hY:Y 0 S w):
  zD prog 337 [.yld id,.iptr [x] 0,.iptr [y] 0] w λ_ h'=>∃S',But S w h'/\Y (a.length*b.length) S' h':=by
 have aj:=uh C;have ak:=uh D;obtain⟨x1,x2,_⟩:=zw C;obtain⟨y1,y2,_⟩:=zw D;refine zj zK5 ?_;simp only[f337,zA]
 repeat' first|simp only[go_sem, *]|apply bc<;>intro Q
 refine zY (λi fr h'=>fr 0=.yld id/\fr 2=.iptr [y] 0/\fr 8=x/\fr 9=.int .i64 (a.length:Int)/\fr 10=.int .i64 (i:Int)/\∃S',(∀j,S' j->S j\/w.next<=j)/\But S w h'/\Y (i*b.length) S' h') a.length ow ?_ ?_ ?_
 .have H:∃S',(∀j,S' j->S j\/w.next<=j)/\But S w w/\Y (0*b.length) S' w:=⟨S,λj B=>.inl B,But.refl S w,by rw[sK];exact hY⟩
  simp only[go_sem,zM,zV,zG];exact H
 .rintro i fr h1 m e1 ew ⟨I,J,K,L,z,M⟩
  have a1:=p4 C m;have u:=N _ (zH m);have A:=λj (B:j<b.length)=>ID m B;generalize a[i]=p at *
  obtain⟨R,p2,_⟩:=zw u.sl
  repeat' first|simp only[go_sem, *]|apply bc<;>intro Q
  refine qn (λj fr h'=>fr 0=.yld id/\fr 2=.iptr [y] 0/\fr 8=x/\fr 9=.int .i64 (a.length:Int)/\fr 10=.int .i64 (i:Int)/\fr 5=p.d/\fr 14=y/\fr 15=.int .i64 (b.length:Int)/\fr 16=.int .i64 (j:Int)/\∃S',(∀j,S' j->S j\/w.next<=j)/\But S w h'/\Y (i*b.length+j) S' h') b.length ?_ ?_
  .simp only[go_sem,zM,zV,zG]
   exact⟨I,J,K,L,z,M⟩
  clear M;rintro j W l B ⟨g0,g2,g8,g9,X,g5,Z,ad,ag,S',f,c,e⟩;by_cases g:j<b.length
  .have e2:decide ((j:Int)<(b.length:Int))=true:=zR ow
   have V:IntKind.i64.wrap ((j:Int)+1)=((j+1:Nat):Int):=qH jL;have b1:=p4 D g;have v:=O _ (zH g);have o:=A j g;have hk:i*b.length+j<a.length*b.length:=by
    have:i*b.length+b.length<=a.length*b.length:=by rw[<-qh];exact yg _ m
    omega
   have s:=E.go (i*b.length+j) S' l hk e;simp only[o]at s;generalize b[j]=q at *
   obtain⟨T,q2,_⟩:=zw v.sl;have F:=Km u v l;have ai:∀nid:Nat,yD prog false nid 44 2 [(0,p.d),(1,q.d)] l=some (.sl 1 [[p.d],[q.d]] .full,l):=λnid=>by
    have:=WJ (P:=prog) (nid:=nid) (h:=l) (x:=p.d) (y:=q.d) uG fL uK rfl rfl ow ow p2 (by rw[R];rfl) q2 (by rw[T];rfl);rw[R,T]at this;exact this
   have a3:(mkA (p.ts++q.ts)).d.notTuple=true:=rfl;clear u v A o E C D N O
   repeat' first|simp only[go_sem, *]|apply bc<;>intro Q|(refine zD.mono F ?_;rintro r h ⟨hq,rfl⟩)
   subst hq;refine s.mono ?_;rintro r h3 ⟨U,k1,k2,k3⟩;rcases k3 with⟨rfl,k3⟩ | ⟨rfl,k3⟩
   .have n:∃S',(∀j,S' j->S j\/w.next<=j)/\But S w h3/\Y (i*b.length+(j+1)) S' h3:=⟨U,λi' G=>by
     rcases k1 i' G with q|q
     .exact f _ q
     .exact .inr (by have:=c.1;omega),c.trans k2 f,k3⟩
    clear f c e k1 k2 k3 s;exact au
   .exact k3.elim
  .have e2:decide ((j:Int)<(b.length:Int))=false:=zN ow
   have t:j=b.length:=ow;have n:∃S',(∀j,S' j->S j\/w.next<=j)/\But S w l/\Y ((i+1)*b.length) S' l:=⟨S',f,c,by rw[qh,<-t];rw[t]at e⊢;exact e⟩;clear f c e E t;exact au
 .rintro fr l e1 ⟨I,J,K,L,z,S',f,c,e⟩
  have n:∃S',But S w l/\Y (a.length*b.length) S' l:=⟨S',c,e⟩;clear f c e E;exact au
def Nq(l:List (List Trm)):∀c∈qT (l.map mkA),uA c:=λc a=>by
 obtain⟨y,b,rfl⟩:=zS.1 a;obtain⟨z,_,rfl⟩:=zS.1 b;exact bf z
theorem Tu{a b:List Alt}(hx:yZ 1 (qT a) x)(hy:yZ 1 (qT b) y)(ha:∀q∈a,q.Ok)(hb:∀q∈b,q.Ok)(O:a.length<=256)(R:b.length<=256)(g:Heap):
  zD prog 336 [.nilsl,.fn (.func 337) [] [.iptr [x] 0,.iptr [y] 0]] g λr h'=>h'=g/\Fin 1 (qT ((bj a b).map mkA)) r:=by
 refine xU kr λad=>xS ?_;refine xP λQ hQ=> ?_;have I:(bj a b).length=a.length*b.length:=VQ a b;have hm:a.length*b.length<=65536:=zb (lT O R) ow;obtain⟨n,o⟩:∃n,qT ((bj a b).map mkA)=n:=⟨_,rfl⟩;have X:n.length=a.length*b.length:=by rw[<-o,yr,zI,I]
 have W:∀k,k<a.length*b.length->n[k]? =some [(mkA (Zn a b k)).d]:=λk N=>by
  rw[<-o];simp[qT,bj,N]
 have V:∀c∈n,uA c:=by rw[<-o];exact Nq _
 rw[o]at hQ;refine zj zK4 ?_;simp only[f336,zA];simp only[go_sem, *];simp only[za];generalize H:LRec.mk _ _ _ _ _ _ _=L;have yl:Yld prog (g.next+1) (a.length*b.length) (λk=>[(mkA (Zn a b k)).d]) (BV g.next 1 L n) (λ_ _=>False):=by
  refine⟨λk S h y=>y.here,λk S h h' y hn N=>y.loc hn N,λS h hz=>hz.elim,λS h h' hz=>hz.elim,λi S h3 hi Z=> ?_⟩;have hc:=W i hi;generalize U:(mkA (Zn a b i)).d=m at *
  have T:m.cells= [m]/\m.notTuple=true/\m.flat=true:=by rw[<-U];exact⟨rfl,rfl,rfl⟩
  obtain⟨m1,m2,m3⟩:=T;have v:=λnid h=>cQ m nid h m1 m2 m3;obtain⟨g1,t,d,G,u,s⟩:=Z;subst H;refine wo.round (g:=Dv) mix t rfl kr kr kr ?_;simp only[go_sem];refine⟨t,?_⟩;generalize hB:LRec.mk .busy _ _ _ _ _ _=B;generalize f:Heap.set h3 (g.next+1) (.loop B)=h5;have C:h5.at' g.next=some (.row [d]):=by rw[<-f,zX ow];exact G
  have a3:h5.at' (g.next+1)=some (.loop B):=by rw[<-f];simp[Heap.set]
  have a4:h5.next=h3.next:=by rw[<-f,yY]
  have D:rJ h5 1 (n.take i) d:=u.loc ow λj l=>by
   have:=u.tok l;rw[<-f,zX (λe=>by subst e;rw[t]at this;cases this.2)]
  simp only[go_sem,C,v];have A:(n.take i).length=i:=by rw[yB];omega
  refine D.app2 uG pR uK ow jS jS (by rw[A,tF];unfold lim;simp;omega) (by rw[A];unfold lim;simp;omega) ?_;intro F h6 b1 b2 E b4 b5 b6;have c1:h6.at' g.next=some (.row [d]):=by
   rw[E _ ow λz=> ?_]
   .exact C
   .have:=(D.tok z).2
    rw[C]at this;cases this
  have Y:=yN (P:=prog) (off:=0) c1 aC jS b5 b6;simp only[go_sem,Y,tY];have c2:(h6.set g.next (.row [F])).at' (g.next+1)=some (.loop B):=by
   rw[zX ow,E _ ow λz=> ?_]
   .exact a3
   .have:=(D.tok z).2
    rw[a3]at this;cases this
  refine tj c2 ⟨λj=>j=g.next\/j=g.next+1\/tu F j,λj l=> ?_,⟨by simp only[go_sem];omega,λj l J=> ?_⟩,.inl ⟨rfl,by simp only[go_sem];omega,?_,F,?_,?_,λj=>Iff.rfl⟩⟩
  .rcases l with rfl|rfl|l
   .exact .inl ((s _).2 (.inl rfl))
   .exact .inl ((s _).2 (.inr (.inl rfl)))
   .exact .inr (by have:=b4 j l;omega)
  .have n1:j≠g.next:=λe=>J ((s j).2 (.inl e))
   have n2:j≠g.next+1:=λe=>J ((s j).2 (.inr (.inl e)));rw[zX n2,zX n1,E j ow (λz=>J ((s j).2 (.inr (.inr z)))),<-f,zX n2]
  .rw[zW,<-hB]
  .rw[zX ow,zW]
  .have:n.take (i+1)=n.take i++ [[m]]:=by rw[List.take_add_one,hc];rfl
   rw[this];refine b1.loc (zC _) λj l=> ?_;have:=b4 j l;rw[zX ow,zX ow]
 refine(GQ hx hy ha hb ow ow yl (S:=λi=>i=g.next\/i=g.next+1) (w:=(g.new g.next (.row [.nilsl])).new (g.next+1) (.loop L)) ?_).mono ?_
 .refine⟨?_,z5 _ _ _,.nilsl,by rw[zf ow,z5],.inl ⟨rfl,rfl⟩,λj=>by simp[tu]⟩
  rw[qG _ (by rw[za];exact zC _)];omega
 rintro r h2 ⟨S',M,K⟩;obtain⟨g1,t,d,G,u,s⟩:=K;rw[<-X,yC]at u;refine⟨L,t,?_,?_⟩
 .rw[<-H];intro e;cases e
 have hp:L.pending=none:=by rw[<-H]
 rw[hp,rp];have k1:(h2.del (g.next+1)).at' g.next=some (.row [d]):=by rw[wM ow];exact G
 have p:=u.fin V;have hq:=hQ d (h2.del (g.next+1)) ⟨Ext.del (Ext.of_but (((Ext.refl g).new (zC _) _).new ow _) M λj l=>by rcases l with rfl|rfl<;>omega) ow,qQ (yM _) _ p.1,p.2⟩;exact au
def M7{a b:List Alt}(k:yZ 1 (qT a) x)(l:yZ 1 (qT b) y)(f:∀q∈a,q.Ok)(i:∀q∈b,q.Ok)(c:a.length<=256)(d:b.length<=256)(g:Heap):
  zD prog 253 [.fn (.func 337) [] [.iptr [x] 0,.iptr [y] 0]] g λr h'=>h'=g/\Fin 1 (qT ((bj a b).map mkA)) r:=by
 have h1:=Tu k l f i c d;refine xP λQ e=> ?_;refine zj zKb ?_;simp only[f253,zA];simp only[go_sem, *];refine(h1 _).mono ?_;rintro r h ⟨j,hf⟩;subst j;have:=e r h ⟨rfl,hf⟩;exact au
def QS(l:List (List Trm)):D:=.tuple (if l.length>64 then [.nilsl,.int .i64 10]else [.sl 1 (qT (l.map mkA)) .no,.int .i64 0])
def PE{l:List (List Trm)}(e:l.length<=1048576)(g:Heap):
  zD prog 251 [.sl 1 (qT (l.map mkA)) .no] g λr h'=>h'=g/\r=QS l:=by
 have a:=uh (l:=l.map mkA) (yZ.mk .no);rw[zI]at a;refine xP λQ d=> ?_;have b:=d (QS l) g ⟨rfl,rfl⟩;unfold QS at b;refine zj zKZ ?_;simp only[f251,zA];by_cases c:l.length>64
 .rw[ip c]at b
  have e1:decide ((l.length:Int)>64)=true:=zR ow;exact au
 .rw[iq c]at b
  have e1:decide ((l.length:Int)>64)=false:=zN ow;exact au
def Xd(l:List Lic):∀x∈jv l,x.length=4:=λx a=>by
 obtain⟨y,_,rfl⟩:=zS.1 a;rfl
def GP(x y:Lic)(g:Heap):zD prog 328 [.agg x.cells,.agg y.cells] g λr h'=>h'=g/\r=.int .i64 (uq x.ver y.ver):=by
 have h1:=Yr x.ver y.ver;refine zj zKx ?_;simp only[f328,zA];simp only[Lic.cells]
 repeat' first|simp only[go_sem, *]|apply bc<;>intro a|refine zD.use (h1 _) ?_
def AD{l:List Lic}(h0:l≠[])(s:l.length<=1048576)(a:g.at' id=some (.row (jv l).flatten)):
  zD prog 327 [.rs id 4 0 l.length,.fn (.func 328) [] []] g λr h'=>r=.tuple []/\∃ys:List Lic,ys.Perm l/\h'=g.set id (.row (jv ys).flatten):=by
 have:=zD.of_sortK (P:=prog) (f:=327) (cmp:=328) (k:=4) (cells:=Lic.cells) (xs:=l) (id:=id) (pre:=[]) (post:=[]) (h:=g) (cf:=λx y=>uq x.ver y.ver) (mid:=[]) (midV:=[]) (λM ρ vs h=>by simpa [wG]using h) h0 ow (λ_ _=>rfl) kr (enters_of func328 kr rfl) (by simpa [jv]using a) (Xt.key Lic.ver).swo ow
  (λx _ y _ H=>GP x y H) (λα _ enc h1 e cf j g cb b off cap d w o n i m c q=>AnyQ.slices_SortFunc Tryz.sortLic 4 (isAgg117) (sizeOf117) enc h1 e cf j g cb b off cap d w o n i m c)
 refine this.mono λr h' ⟨e1,ys,p,c,e2⟩=>⟨e1,ys,p,?_⟩;rw[e2];simp[jv]
def p9(x y:Lic):Bool:=y.fam==x.fam&&decide (y.ver>=x.ver)
def gV(c:Cat)(x:Lic):List (List UInt8):=(c.ls.filter (p9 x)).map Lic.name
def RZ{k:List UInt8}{x:Lic}(h:nq c k=some x):x∈c.ls:=by
 unfold nq at h;split at h
 .cases h
 .split at h
  .exact zh h
  .cases h
def Rt{x:Lic}(h:x∈c.ls):c.ls.filter (p9 x)≠[]:=λe=>by
 have:x∈c.ls.filter (p9 x):=rM.2 ⟨h,by simp[p9]⟩;rw[e]at this;cases this
def zAT(x:Lic)(nid:Nat)(h:Heap):yD prog false nid 22 1 [(0,.agg [.str x.name,.str x.fam,.int .i64 x.ver,.str x.text])] h=some (.sl 4 [x.cells] .full,h):=
 qd (P:=prog) (x:=.agg [.str x.name,.str x.fam,.int .i64 x.ver,.str x.text]) bK WQ jW rfl rfl ow ow rfl rfl
theorem Br(n:uB c d)(hs:c.Sm){k:List UInt8}{x:Lic}(hf:nq c k=some x)(g:Heap):
  zD prog 250 [d,.str k] g λr h'=>h'=g/\∃ns,ns.Perm (gV c x)/\r=.tuple [.sl 1 (wg ns) .no,.int .i64 0]:=by
 have F:=Kq n hs k;have S:gR c k=.tuple [.agg [.str x.name,.str x.fam,.int .i64 x.ver,.str x.text],.bool true]:=by unfold gR;rw[hf]
 rw[S]at F;clear S;refine xU kr λba=>xS ?_;refine xP λQ hQ=> ?_;have ad:=RZ hf;have s1:=hs.ls.1;obtain⟨a,b,e,p,rfl,ha,hb,he,hp⟩:=n;have A:=rF ha;have Y:=jo x;obtain⟨G0,N,r0,E0,n0⟩:∃G,g.new g.next (.row [.str x.name,.str x.fam,.int .i64 x.ver,.str x.text])=G/\G.at' g.next=some (.row [.str x.name,.str x.fam,.int .i64 x.ver,.str x.text])/\Ext g G/\g.next<G.next:=⟨_,rfl,z5 _ _ _,(Ext.refl g).new (zC _) _,by rw[za];omega⟩;refine zj zKY ?_;simp only[f250,zA]
 repeat' first|simp only[go_sem, *]|apply bc<;>intro n|(refine zD.mono (F _) ?_;rintro r h ⟨hq,rfl⟩)
 clear Y F hb he hp;refine zY (λi fr h=>∃s,fr 6=.ptr g.next 0/\fr 23=a/\fr 24=.int .i64 (c.ls.length:Int)/\fr 25=.int .i64 (i:Int)/\fr 8=s/\Yg G0 h 4 (jv ((c.ls.take i).filter (p9 x))) s) c.ls.length ow ?_ ?_ ?_
 .have a7:=Yg.start (Ext.refl G0) 4
  simp only[go_sem,zM,zV,zG];exact⟨_,rfl,a7⟩
 .rintro i fr l z ec ew ⟨s,f6,ai,aj,ak,f8,j⟩
  have a1:=pV ha z;have w:(c.ls.take (i+1)).filter (p9 x)=(c.ls.take i).filter (p9 x)++ [c.ls[i]].filter (p9 x):=by rw[zP z,lD]
  have I:((c.ls.take i).filter (p9 x)).length<=i:=zb (uY _ _) (by rw[yB];omega);rw[w];clear w;generalize c.ls[i]=y at *
  generalize(c.ls.take i).filter (p9 x)=pre at *
  have a8:=jo y l l.next;have r1:(l.new l.next (.row [.str y.name,.str y.fam,.int .i64 y.ver,.str y.text])).at' g.next=some (.row [.str x.name,.str x.fam,.int .i64 x.ver,.str x.text]):=by
   rw[zf (by have:=j.1.1;omega),j.1.2 _ n0];exact r0
  have r2:(l.new l.next (.row [.str y.name,.str y.fam,.int .i64 y.ver,.str y.text])).at' l.next=some (.row [.str y.name,.str y.fam,.int .i64 y.ver,.str y.text]):=z5 _ _ _;have m:=j.ext ((Ext.refl l).new (zC _) (.row [.str y.name,.str y.fam,.int .i64 y.ver,.str y.text]));simp only[Lic.cells]at a1;have W:=zAT y;generalize l.new l.next (.row [.str y.name,.str y.fam,.int .i64 y.ver,.str y.text])=H at *
  obtain⟨d',G,E,v,K⟩:=m.app (P:=prog) (ys:=jv [y]) (tk:=.full) bK Fu jW ow (λcs=>sV underlying117) (Xd _) (Xd _) (by simp[jv]) (by rw[mX,M3];unfold lim;simp[jv];omega) (by rw[mX];unfold lim;simp[jv];omega);have R:jv [y]= [y.cells]:=rfl;rw[R]at E K v;have U:jv (pre++ [y])=jv pre++ [y.cells]:=by simp[jv]
  rw[<-U]at v;clear j U R hQ A ha E0 N r0;cases q1:(y.fam==x.fam)with
  |false=>
   have f:pre++ [y].filter (p9 x)=pre:=by simp[p9,q1]
   rw[f];clear f E K v
   repeat' first|simp only[go_sem, *]|apply bc<;>intro n
   exact⟨_,rfl,m⟩
  |true=>
   cases q2:decide (y.ver>=x.ver)with
   |false=>
    have f:pre++ [y].filter (p9 x)=pre:=by simp only[sW,p9,q1,q2];simp
    rw[f];clear f E K v
    repeat' first|simp only[go_sem, *]|apply bc<;>intro n
    exact⟨_,rfl,m⟩
   |true=>
    have f:pre++ [y].filter (p9 x)=pre++ [y]:=by simp only[sW,p9,q1,q2];simp
    rw[f];clear f m
    repeat' first|simp only[go_sem, *]|apply bc<;>intro n
    exact⟨_,rfl,v⟩
 .rintro fr l ec ⟨s,f6,ai,aj,ak,f8,j⟩
  rw[yC]at j;have J:=Rt ad;have a4:(c.ls.filter (p9 x)).length<=1048576:=zb (uY _ _) s1;have hS:gV c x=(c.ls.filter (p9 x)).map Lic.name:=rfl;rw[hS]at hQ;clear hS;generalize c.ls.filter (p9 x)=L at *
  obtain⟨hx,n⟩:=j;rcases n with⟨_,e⟩ | ⟨id,rfl,C,hid,T,_⟩
  .exact absurd (by simpa [jv]using e) J
  rw[mX]at f8;have X:=AD J a4 C;have O:∀(ys:List Lic) r h',ys.Perm L->Ext g h'->below g.next (qM r)->Fin 1 (wg (ys.map Lic.name)) (qM r)->Q (.tuple [r,.int .i64 0]) h':=λys r h' q0 q1 q2 q3=>by
   refine hQ _ _ ⟨q1,?_,?_⟩
   .simp only[qM,qU,below,qC];exact⟨q2,trivial,trivial⟩
   .refine⟨ys.map Lic.name,q0.map _,?_⟩
    rcases q3 with⟨_,e⟩ |e
    .have:ys= []:=by simpa [wg]using e
     subst this;exact absurd (ct.1 q0) J
    .simp only[qM,qU,e]
  clear hQ ad A ha;have Z:g.next<=id:=zb E0.1 hid
  repeat' first|simp only[go_sem, *]|apply bc<;>intro n
  refine X.mono ?_;rintro r h3 ⟨rfl,ys,hp,rfl⟩;have a9:=hp.length_eq;have r1:(l.set id (.row (jv ys).flatten)).at' id=some (.row (jv ys).flatten):=zW _ _ _;have M:Ext g (l.set id (.row (jv ys).flatten)):=(E0.trans hx).set Z _;have u:id<(l.set id (.row (jv ys).flatten)).next:=T;generalize l.set id (.row (jv ys).flatten)=H at *
  have bb:=λ(h:Heap)=>oz (P:=prog) (t:=22) (sz:=4) (id:=id) (off:=0) (len:=L.length) (h:=h) underlying22;have D:=λr h'=>O ys r h' hp;clear O X C hx E0 N r0
  repeat' first|simp only[go_sem, *]|apply bc<;>intro n
  refine zY (λi fr h=>∃o,fr 48=.rs id 4 0 L.length/\fr 49=.int .i64 (L.length:Int)/\fr 50=.int .i64 (i:Int)/\fr 11=o/\Own H h 1 (wg ((ys.take i).map Lic.name)) o) L.length ow ?_ ?_ ?_
  .have hs:=Own.start (Ext.refl H) 1
   simp only[go_sem,zM,zV,zG];exact⟨_,rfl,hs⟩
  .rintro i fr h3 z ec ew ⟨o,a0,a2,a3,ag,j⟩
   have B:i<ys.length:=ow;have a1:=qX (P:=prog) (sz:=4) (id:=id) bK jW (k:=.i64) z;have a6:h3.at' id=some (.row (jv ys).flatten):=by rw[j.1.2 _ u];exact r1
   have p1:=o5 (Xd ys) ow (N6 B);have w:(ys.take (i+1)).map Lic.name=(ys.take i).map Lic.name++ [ys[i].name]:=by rw[zP B,wD];rfl
   have I:((ys.take i).map Lic.name).length=i:=by rw[zI,yB];omega
   rw[w];clear w;generalize ys[i]=y at *
   generalize(ys.take i).map Lic.name=pre at *
   simp only[Lic.cells]at p1;have a8:=jo y h3 h3.next;have m:=j.ext ((Ext.refl h3).new (zC _) (.row [.str y.name,.str y.fam,.int .i64 y.ver,.str y.text]));have r2:(h3.new h3.next (.row [.str y.name,.str y.fam,.int .i64 y.ver,.str y.text])).at' h3.next=some (.row [.str y.name,.str y.fam,.int .i64 y.ver,.str y.text]):=z5 _ _ _;have W:=gb y.name;generalize h3.new h3.next (.row [.str y.name,.str y.fam,.int .i64 y.ver,.str y.text])=h4 at *
   clear D j r1 M u
   repeat' first|simp only[go_sem, *]|apply bc<;>intro n
   refine m.appH (ys:=wg [y.name]) ww aR pK ow TH (by simp[wg]) (by rw[qm,p6,I];unfold lim;simp[wg];omega) (by rw[qm,I];unfold lim;simp[wg];omega) λd' h' V=> ?_;have a5:Own H h' 1 (wg (pre++ [y.name])) d':=by
    have:wg (pre++ [y.name])=wg pre++wg [y.name]:=by simp[wg]
    rw[this];exact V
   clear m V
   repeat' first|simp only[go_sem, *]|apply bc<;>intro n
   exact⟨_,rfl,a5⟩
  .rintro fr h3 ec ⟨o,a0,a2,a3,ag,j⟩
   rw[<-a9,yC]at j;have q:=j.2.1.fin uj;have hq:=D o h3 (M.trans j.1) (qQ (yM _) _ q.1) q.2;clear D q j;exact au
def szd(l:List (List Trm)):Option (List (List Trm)):=if l.length>64 then none else some l
def dZ(a b:List (List Trm)):List (List Trm):=bj (a.map mkA) (b.map mkA)
mutual
def be(c:Cat):Ex->Option (List (List Trm))
 |.mk k n x l _=>if(k==0)=true then some [[⟨n,x⟩]]else if(k==1)=true then(match nq c n with
   |none=>none
   |some y=>szd (wm ((gV c y).map λs=>[⟨s,[]⟩])))
  else match cN c k l true []with
   |none=>none
   |some out=>szd (wm out)
def cN(c:Cat)(k:Int):List Ex->Bool->List (List Trm)->Option (List (List Trm))
 | [],_,out=>some out
 |e::es,first,out=>match be c e with
  |none=>none
  |some l=>if(k==3)=true then cN c k es false (out++l)else if first=true then cN c k es false l else match szd (wm (dZ out l))with
   |none=>none
   |some o=>cN c k es false o
end
def Ex.Fit(c:Cat)(e:Ex):Prop:=∀x∈e.pre,x.err=0/\P7 c x=0
theorem MQ:∀{l:List Ex}{e x:Ex},e∈l->x∈e.pre->x∈YU l
 |a::l,e,x,h,b=>by
  simp only[YU];rcases z7.1 h with rfl|h
  .grind
  .exact nG _ (MQ h b)
def Ex.Fit.kid{e k:Ex}(h:e.Fit c)(a:k∈e.kids):k.Fit c:=λx b=>by
 obtain⟨g,n,f,l,d⟩:=e;exact h x (by simp only[Ex.pre];exact z8 _ (MQ a b))
def Ex.Fit.self(h:e.Fit c):e.err=0/\P7 c e=0:=by
 obtain⟨b,n,a,l,d⟩:=e;exact h _ (by simp only[Ex.pre];exact qO)
theorem bQ{f:Nat->Int} :∀{n:Nat},gT f n=0->∀i,i<n->f i=0
 |n+1,h,i,a=>by
  simp only[gT]at h;split at h
  .rename_i q
   rcases zp.1 a with g|rfl
   .exact bQ (by simpa using q) i g
   .exact h
  .grind
def Nt(h:oX c e=0):rt c=0/\e.size<=64/\e.Fit c:=by
 unfold oX at h;split at h
 .grind
 rename_i f;split at h
 .grind
 rename_i g;have a:gS e=0:=by simpa using g
 unfold gS at a;split at a
 .grind
 rename_i j;split at a
 .grind
 refine⟨by simpa using f,by simp at j;omega,λx d=> ?_⟩;obtain⟨i,b,rfl⟩:=zz.1 d;rw[e.pre_len]at b
 grind [bQ,Ex.errAt,Ex.unk]
def Ns{k:Int}{n x:List UInt8}{l:List Ex}(h:(Ex.mk k n x l d).Fit c):((k=0\/k=1)/\l= []/\(k=1->x= [])/\∃y,nq c n=some y)\/((k=2\/k=3)/\2<=l.length):=by
 obtain⟨h1,b⟩:=h.self;replace h1:cP k n x l.length=0:=h1;unfold cP at h1;by_cases q:((k==0)||(k==1))=true
 .left
  rw[ip q]at h1;by_cases a:(decide ((l.length:Int)>0)||((k==1)&& !(x== [])))=true
  .grind
  rw[iq a]at h1;by_cases f:(!oY n||(!(x== [])&& !oY x))=true
  .grind
  simp only[yn,qz,zO,zF,qI,bg,not_and,lx,yv]at q a f;refine⟨q,ye.1 ow,λe=>by simpa using a.2 e,?_⟩;replace b:(if(!(n== [])&& !Wb c n x)=true then(7:Int)else 0)=0:=b
  by_cases i:(!(n== [])&& !Wb c n x)=true
  .grind
  have g:¬(n== [])=true:=λe=>by
   have:n= []:=by simpa using e
   subst this;exact absurd f.1 jD
  grind [Wb,nq]
 .grind
theorem ME{l:List (List Trm)}(h:l≠[]):∀n,0<n->n<=l.length->jw l n≠[]
 |1,_,a=>by grind [jw,gY]
 |n+2,_,a=>by
  have b:=ME h (n+1) ow ow;rw[jw,zB ow];simp only[gY];split
  .exact b
  .simp
def Xk{l:List (List Trm)}(h:l≠[]):wm l≠[]:=by
 have a:(pb l).length=l.length:=by rw[pb,(sD _).length_eq,zI]
 have b:0<l.length:=zy.2 h
 grind [ME,wm]
def ga(l:List (List Trm)):(wm l).length<=l.length:=by
 have a:(pb l).length=l.length:=by rw[pb,(sD _).length_eq,zI]
 grind [Xj,pb,wm]
def Uq{l m:List (List Trm)}(h:l.Perm m):wm l=wm m:=by
 unfold wm pb;rw[Ir Xs To (h.map nY)]
def YZ{l m:List (List Trm)}(h:szd l=some m):m=l/\l.length<=64:=by grind [szd]
structure AltsOk(n:Nat)(l:List (List Trm)):Prop where
 ne:l≠[]
 ts:∀t∈l,t≠[]/\t.length<=n
def AltsOk.mono{n m:Nat}{l:List (List Trm)}(h:AltsOk n l)(b:n<=m):AltsOk m l:=⟨h.ne,λt a=>⟨(h.ts t a).1,zb (h.ts t a).2 b⟩⟩
def AltsOk.min{l:List (List Trm)}(h:AltsOk n l):AltsOk n (wm l):=⟨Xk h.ne,λt b=>by
 obtain⟨y,c,rfl⟩:=R3 b;obtain⟨h1,a⟩:=h.ts y c;exact⟨MJ h1,zb (R8 _) a⟩⟩
def AltsOk.app{l m:List (List Trm)}(h:∀t∈l,t≠[]/\t.length<=n)(k:AltsOk n m):AltsOk n (l++m):=⟨λe=>k.ne (jr.1 e).2,λt a=>by
 rcases qB.1 a with q|q
 .exact h t q
 .exact k.ts t q⟩
def Ll{a b:List (List Trm)}{t:List Trm}(h:t∈dZ a b):∃x∈a,∃y∈b,t=x++y:=by
 obtain⟨k,d,rfl⟩:=zS.1 h;rw[yz,zI,zI]at d;have c:0<b.length:=by grind
 have h1:k/b.length<a.length:=by rw[nH c];exact d
 have e:k%b.length<b.length:=aV _ c
 grind [Zn,mkA]
def VS(a b:List (List Trm)):(dZ a b).length=a.length*b.length:=by grind [dZ,VQ]
def AltsOk.pairs{n m:Nat}{a b:List (List Trm)}(h:AltsOk n a)(k:AltsOk m b):AltsOk (n+m) (dZ a b):=by
 refine⟨λe=> ?_,λt d=> ?_⟩
 .have:=VS a b
  rw[e]at this;have h1:0<a.length:=zy.2 h.ne;have c:0<b.length:=zy.2 k.ne;have:=Yf h1 c;simp at *;omega
 .obtain⟨x,f,y,g,rfl⟩:=Ll d
  have h1:=h.ts x f;have c:=k.ts y g;exact⟨λe=>h1.1 (jr.1 e).1,by rw[zQ];omega⟩
def XH{n:List UInt8}{y:Lic}(h:nq c n=some y):gV c y≠[]:=λe=>Rt (RZ h) (uR.1 e)
def PX:∀n:Nat,(∀e:Ex,e.size<=n->e.Fit c->∀l,be c e=some l->l.length<=64/\AltsOk e.size l)/\
  ∀(k:Int)(a:List Ex),qR a<=n->(∀e∈a,e.Fit c)->∀(m:Nat)(first:Bool)(out R:List (List Trm)),(∀t∈out,t≠[]/\t.length<=m)->(first=false->out≠[])->(a= []->out≠[])->cN c k a first out=some R->AltsOk (m+qR a) R/\R.length<=out.length+64*a.length:=by
 intro n
 induction n with
 |zero=>
  refine⟨λe h=> ?_,λk a h hf m first out R h1 A h3 b=> ?_⟩
  .cases e;simp only[Ex.size]at h;omega
  .cases a with
   |nil=>simp only[cN]at b;cases b;exact⟨⟨h3 rfl,by simpa [qR]using h1⟩,jS⟩
   |cons e l=>cases e;simp only[qR,Ex.size]at h;omega
 |succ n w=>
  have key:∀e:Ex,e.size<=n+1->e.Fit c->∀l,be c e=some l->l.length<=64/\AltsOk e.size l:=λe h hf l f=>by
   obtain⟨k,J,x,a,d⟩:=e;simp only[Ex.size]at h⊢;have I:=Ns hf;rw[be]at f;split at f
   .cases f
    exact⟨jS,jS,λt p=>by cases zo.1 p;exact⟨jS,jS⟩⟩
   split at f
   .split at f
    .cases f
    .rename_i y H
     obtain⟨rfl,q⟩:=YZ f;refine⟨q,AltsOk.min ⟨by simpa using XH H,λt p=> ?_⟩⟩;obtain⟨s,_,rfl⟩:=zS.1 p;exact⟨jS,jS⟩
   .rename_i K L
    split at f
    .cases f
    .rename_i out v
     obtain⟨rfl,q⟩:=YZ f;have z:2<=a.length:=by grind
     have:=w.2 k a ow (λe E=>hf.kid E) 0 true [] out (λt p=>by cases p) jS (λe=>by subst e;simp at z) v;exact⟨q,this.1.min.mono ow⟩
  refine⟨key,λk a h hf m first out R h1 A h3 b=> ?_⟩
  cases a with
  |nil=>simp only[cN]at b;cases b;exact⟨⟨h3 rfl,by simpa [qR]using h1⟩,jS⟩
  |cons e a=>
   have B:0<e.size:=by cases e;simp only[Ex.size];omega
   simp only[qR]at h⊢;rw[cN]at b;split at b
   .cases b
   .rename_i l f
    obtain⟨C,g⟩:=key e ow (hf e jS) l f;have r:∀e∈a,e.Fit c:=λx G=>hf x (z8 _ G);split at b
    .have i:=AltsOk.app (n:=m+e.size) (λt p=>⟨(h1 t p).1,zb (h1 t p).2 ow⟩) (g.mono (show e.size<=m+e.size by omega))
     have:=w.2 k a ow r (m+e.size) false (out++l) R i.ts (λ_=>i.ne) (λ_=>i.ne) b
     grind
    .split at b
     .have i:=g.mono (show e.size<=m+e.size by omega)
      have:=w.2 k a ow r (m+e.size) false l R i.ts (λ_=>i.ne) (λ_=>i.ne) b
      grind
     .rename_i j
      have u:out≠[]:=A (by simpa using j);split at b
      .cases b
      .rename_i o F
       obtain⟨rfl,D⟩:=YZ F;have i:=(AltsOk.pairs ⟨u,h1⟩ g).min;have:=w.2 k a ow r (m+e.size) false _ R i.ts (λ_=>i.ne) (λ_=>i.ne) b
       grind
def Wg:Option (List (List Trm))->D
 |some l=>.tuple [.sl 1 (qT (l.map mkA)) .no,.int .i64 0]
 |none=>.tuple [.nilsl,.int .i64 10]
def ZM(l:List (List Trm)):QS l=Wg (szd l):=by
 unfold QS szd;split<;>rfl
def Vn(l:List (List Trm)):qM (.sl 1 (qT (l.map mkA)) .no)=.sl 1 (qT (l.map mkA)) .no/\below 0 (.sl 1 (qT (l.map mkA)) .no):=qY (Nq l) .no
def kQ(o:Option (List (List Trm)))(n:Nat):qM (Wg o)=Wg o/\below n (Wg o):=by
 cases o with
 |none=>exact⟨rfl,by simp[Wg,below,qC]⟩
 |some l=>
  obtain⟨h1,a⟩:=Vn l;refine⟨?_,?_⟩
  .simp only[Wg,qM,qU]at h1⊢
   rw[h1]
  .simp only[Wg,below,qC]
   exact⟨qQ (yM _) _ a,trivial,trivial⟩
def MK(s x:List UInt8):Alt:=⟨[⟨s,x⟩],.sl 2 [[.str s,.str x]] .full⟩
def zAQ(s x:List UInt8):(MK s x).Ok:=⟨yZ.mk .full,by simp[MK],by simp[MK]⟩
def zCO(s x:List UInt8):qW prog 197 [(0,.str s),(1,.str x)]=some (.agg [.str s,.str x]):=by simp[qW,oc,sH,ua,D.notTuple,D.cells,wS]
def zCN(s:List UInt8):qW prog 197 [(0,.str s)]=some (.agg [.str s,.str []]):=by simp[qW,oc,sH,ua,D.notTuple,D.cells,wS]
def IB(s x:List UInt8)(nid:Nat)(h:Heap):yD prog false nid 195 1 [(0,.agg [.str s,.str x])] h=some (.sl 2 [[.str s,.str x]] .full,h):=
 qd (P:=prog) (x:=.agg [.str s,.str x]) wp sH uO rfl rfl ow ow rfl rfl
def dK(c:Cat)(e:Ex):D:=Wg (be c e)
def LF(e:uB c d){n x:List UInt8}(g:Heap):
  zD prog 209 [d,.agg [.int .i64 0,.str n,.str x,y]] g λr h'=>h'=g/\r=Wg (some [[⟨n,x⟩]]):=by
 refine xU kr λa=>xS ?_;refine xP λQ b=> ?_;obtain⟨ca,cb,ce,cp,rfl,_,_,_,_⟩:=e;have h1:=zCO n x;have f:=IB n x;have h3:=λnid h=>cQ (.sl 2 [[.str n,.str x]] .full) nid h rfl rfl rfl;have i:=b (.tuple [.sl 1 [[.sl 2 [[.str n,.str x]] .full]] .full,.int .i64 0]) g ⟨Ext.refl g,by
  simp[qM,qU,oJ,below,qC,oG],by simp[qM,qU,oJ,Wg,qT,mkA,wj,Trm.cells]⟩
 refine zj FE ?_;simp only[f209,zA];exact au
def LG(j:uB c d)(W:c.Sm){n x:List UInt8}{z:Lic}(hf:nq c n=some z)(g:Heap):
  zD prog 209 [d,.agg [.int .i64 1,.str n,.str x,y]] g λr h'=>h'=g/\r=Wg (szd (wm ((gV c z).map λs=>[⟨s,[]⟩]))):=by
 have w:=Br j W hf;have aj:=W.ls.1;have p:=XH hf;have ag:(gV c z).length<=c.ls.length:=by rw[gV,zI];exact uY _ _
 refine xU kr λV=>xS ?_;refine xP λQ R=> ?_;obtain⟨ca,cb,ce,cp,rfl,_,_,_,_⟩:=j;have P:=Own.start (Ext.refl g) 1;have A:∀(b:List (List UInt8))(h:Heap),o9 prog 45 (.sl 1 (wg b) .no) h=some (.int .i64 b.length):=λb h=>wO (yZ.mk .no) h;have l:∀(b:List (List UInt8))(i:Nat)(U:i<b.length),yc prog 45 (.sl 1 (wg b) .no) (.int .i64 (i:Int))=some (.iptr [.str b[i]] 0):=λb i U=>sP (yZ.mk .no) U;refine zj FE ?_;simp only[f209,zA]
 repeat' first|simp only[go_sem, *]|apply bc<;>intro j
 refine(w _).mono ?_;rintro r h ⟨k,b,I,rfl⟩;subst k;have ai:b.length<=1048576:=by rw[I.length_eq];omega
 have G:b≠[]:=λe=>by subst e;exact p (ct.1 I)
 have ad:=A b;clear A w
 repeat' first|simp only[go_sem, *]|apply bc<;>intro j
 refine zY (λi fr O=>∃o,fr 35=.sl 1 (wg b) .no/\fr 36=.int .i64 (b.length:Int)/\fr 37=.int .i64 (i:Int)/\fr 6=o/\Own h O 1 (qT ((b.take i).map λs=>MK s [])) o) b.length ow ?_ ?_ ?_
 .simp only[go_sem,zM,zV,zG]
  exact⟨_,rfl,P⟩
 .rintro i fr O C Z ew ⟨o,K,L,N,f6,q⟩
  have a1:=l b i C;have J:(b.take (i+1)).map (λs=>MK s [])=(b.take i).map (λs=>MK s [])++ [MK b[i] []]:=by rw[zP C,wD];rfl
  have B:((b.take i).map λs=>MK s []).length=i:=by rw[zI,yB];omega
  rw[J];clear J R l I;generalize b[i]=s at *
  generalize(b.take i).map (λs=>MK s [])=pre at *
  have b1:=zCN s;have b2:=IB s [];have b3:=λnid h=>cQ (.sl 2 [[.str s,.str []]] .full) nid h rfl rfl rfl
  repeat' first|simp only[go_sem, *]|apply bc<;>intro j
  refine q.appH (ys:=qT [MK s []]) uG pR uK ow (sO _) (by simp[qT]) (by rw[yr,tF,B];unfold lim;simp[qT];omega) (by rw[yr,B];unfold lim;simp[qT];omega) λY h' H=> ?_;have S:Own h h' 1 (qT (pre++ [MK s []])) Y:=by
   have:qT (pre++ [MK s []])=qT pre++qT [MK s []]:=by simp[qT]
   rw[this];exact H
  clear q H
  repeat' first|simp only[go_sem, *]|apply bc<;>intro j
  exact⟨_,rfl,S⟩
 .rintro fr O Z ⟨o,K,L,N,f6,q⟩
  rw[yC]at q;have m:=Y1 q.isSl (by simpa using G) (by rw[zI];omega) (λa ha=>by
   obtain⟨s,_,rfl⟩:=zS.1 ha;exact zAQ s [])
  have F:wm ((b.map λs=>MK s []).map Alt.ts)=wm ((gV c z).map λs=>[⟨s,[]⟩]):=by
   rw[wB];exact Uq (I.map _)
  rw[F]at m;have D:wm ((gV c z).map λs=>[⟨s,[]⟩])≠[]:=Xk (by simpa using p);have E:(wm ((gV c z).map λs=>[⟨s,[]⟩])).length<=1048576:=by
   refine zb (ga _) ?_;rw[zI];omega
  generalize wm ((gV c z).map λs=>[⟨s,[]⟩])=M at *
  have f:=PE E;rw[ZM]at f;have t:∀h',Ext h h'->Q (Wg (szd M)) h':=λh' he=>R _ _ ⟨he,by rw[(kQ _ 0).1];exact(kQ _ _).2,by rw[(kQ _ 0).1]⟩;have u:=q.1;clear R F I l p G q;have v:∀r,Fin 1 (qT (M.map mkA)) r->r=.sl 1 (qT (M.map mkA)) .no:=λr hr=>by
   rcases hr with⟨_,e⟩ |e
   .exact absurd (by simpa [qT]using e) D
   .exact e
  repeat' first|simp only[go_sem, *]|apply bc<;>intro j
  refine(m _).mono ?_;rintro r h3 ⟨k,hr⟩;subst k;have T:=v r hr;subst T;have k:=t _ u;clear t hr m u D E;cases X:szd M with
  |none=>
   rw[X]at f k;simp only[Wg]at f k
   repeat' first|simp only[go_sem, *]|apply bc<;>intro j|refine zD.use (f _) ?_
  |some M'=>
   rw[X]at f k;simp only[Wg]at f k
   repeat' first|simp only[go_sem, *]|apply bc<;>intro j|refine zD.use (f _) ?_
def Ja{l:List (List Trm)}(h0:l≠[]){r:D}(hr:Fin 1 (qT (l.map mkA)) r):r=.sl 1 (qT (l.map mkA)) .no:=by
 rcases hr with⟨_,e⟩ |e
 all_goals simp_all [qT]
def Ur{m:Nat}{l:List (List Trm)}(h:∀t∈l,t≠[]/\t.length<=m)(a:m<=4096):∀q∈l.map mkA,q.Ok:=by grind [MF]
def C8(l:List (List Trm)):(l.map mkA).map Alt.ts=l:=by rw[wB];exact List.map_id _
structure MInv(c:Cat)(k:Int)(l:List Ex)(R:Option (List (List Trm)))(g:Heap)(i:Nat)(out:List (List Trm))(o:D)(h:Heap):Prop where
 hE:Ext g h
 hK:cN c k (l.drop i) (i==0) out=R
 hor:k=3->Own g h 1 (qT (out.map mkA)) o
 hand:k≠3->(i=0/\out= [])\/(out≠[]/\o=.sl 1 (qT (out.map mkA)) .no/\out.length<=64)
 hts:∀t∈out,t≠[]/\t.length<=qR (l.take i)
 hol:out.length<=64*i+64
theorem Ku(D:uB c d)(hs:c.Sm):∀(n:Nat)(e:Ex),e.size<=n->e.size<=64->e.Fit c->e.Ok->∀g:Heap,
  zD prog 209 [d,.agg e.cells] g λr h'=>h'=g/\r=dK c e:=by
 intro n
 induction n with
 |zero=>intro e h;cases e;simp only[Ex.size]at h;omega
 |succ n ih=>
 intro e hn W J S g;obtain⟨k,nm,x,l,dd⟩:=e;have I:(Ex.mk k nm x l dd).cells= [.int .i64 k,.str nm,.str x,dd]:=rfl;rw[I];simp only[Ex.size]at hn W;have F:∀(i:Nat)(hi:i<l.length),l[i].Fit c/\l[i].Ok/\∀g:Heap,zD prog 209 [d,.agg l[i].cells] g λr h'=>h'=g/\r=dK c l[i]:=λi hi=>by
  have Z:=zH hi;have h1:l[i].Fit c:=J.kid (e:=.mk k nm x l dd) Z;have h2:l[i].Ok:=pa (by simp only[Ex.Ok]at S;exact S.2.2.2.2) _ Z;have h3:=wu Z;exact⟨h1,h2,ih _ ow ow h1 h2⟩
 rcases Ns J with⟨hk,hl,hx,y,hy⟩ | ⟨hk,b7⟩
 .rcases hk with rfl|rfl
  .refine(LF D (n:=nm) (x:=x) (y:=dd) g).mono λr h' ⟨q1,q2⟩=>⟨q1,?_⟩
   rw[q2];simp[dK,be]
  .refine(LG D hs hy (x:=x) (y:=dd) g).mono λr h' ⟨q1,q2⟩=>⟨q1,?_⟩
   rw[q2];simp[dK,be,hy]
 have e0:(k==0)=false:=by rcases hk with rfl|rfl<;>rfl
 have e1:(k==1)=false:=by rcases hk with rfl|rfl<;>rfl
 have hR:be c (.mk k nm x l dd)=match cN c k l true []with
  |none=>none
  |some out=>szd (wm out):=by rw[be,iq (by rw[e0];exact zd),iq (by rw[e1];exact zd)];try (cases cN c k l true []<;>rfl)
 have N:∀R,cN c k l true []=some R->AltsOk 64 R/\R.length<=64*l.length:=λR hR=>by
  have:=(PX (c:=c) (qR l)).2 k l (zC _) (λe he=>J.kid (e:=.mk k nm x l dd) he) 0 true [] R (λt V=>by cases V) jS (λe=>by subst e;simp at b7) hR;exact⟨this.1.mono ow,by simpa using this.2⟩
 have ck:l.length<=64:=by
  have:∀l:List Ex,l.length<=qR l:=λl=>by
   induction l with
   |nil=>simp
   |cons e l ih=>simp only[qR,zx];cases e;simp only[Ex.size];omega
  have:=this l;omega
 have a5:yZ 4 (exs l) dd:=by simp only[Ex.Ok]at S;exact S.1
 have z:=λ(e:Ex) (he:e.Fit c) (l:List (List Trm)) (hl:be c e=some l)=>(PX (c:=c) e.size).1 e (zC _) he l hl;have a2:∀i (hi:i<l.length),qR (l.take (i+1))=qR (l.take i)+l[i].size/\qR (l.take (i+1))<=qR l:=λi hi=>by
  have app:∀a b:List Ex,qR (a++b)=qR a+qR b:=λa b=>by
   induction a with
   |nil=>simp[qR]
   |cons e a ih=>simp only[yG,qR,ih];omega
  refine⟨by rw[zP hi,app];simp[qR],?_⟩;have:=app (l.take (i+1)) (l.drop (i+1));rw[qg]at this;omega
 obtain⟨R,eR⟩:∃R,cN c k l true []=R:=⟨_,rfl⟩;refine xU kr λcg=>xS ?_;refine xP λQ hQ=> ?_;have p:∀h',Ext g h'->Q (dK c (.mk k nm x l dd)) h':=λh' he=>hQ _ _ ⟨he,by unfold dK;rw[(kQ _ 0).1];exact(kQ _ _).2,by unfold dK;rw[(kQ _ 0).1]⟩;unfold dK at p;rw[hR,eR]at p;rw[eR]at N;clear hQ hR J S ih I;obtain⟨ca,cb,ce,cp,rfl,_,_,_,_⟩:=D;have cf:=pZ a5;have b5:=Own.start (Ext.refl g) 1;refine zj FE ?_;simp only[f209,zA]
 repeat' first|simp only[go_sem, *]|apply bc<;>intro D
 refine zY (λi fr h=>∃out o,fr 2=.iptr [ca,cb,ce,cp] 0/\fr 3=.iptr [.int .i64 k,.str nm,.str x,dd] 0/\fr 54=dd/\fr 55=.int .i64 (l.length:Int)/\fr 56=.int .i64 (i:Int)/\fr 6=o/\MInv c k l R g i out o h) l.length ow ?_ ?_ ?_
 .have h0:MInv c k l R g 0 [] .nilsl g:=⟨Ext.refl g,eR,λ_=>b5,λ_=>.inl ⟨rfl,rfl⟩,λt V=>(by cases V),jS⟩
  simp only[go_sem,zM,zV,zG];exact⟨_,_,rfl,h0⟩
 .rintro i fr h Y ec ew ⟨out,o,f2,f3,b2,b3,b4,f6,⟨hE,j,T,s,w,ad⟩⟩
  have a1:=l9 a5 Y;obtain⟨kf,ko,kc⟩:=F i Y;obtain⟨s1,s2⟩:=a2 i Y;have b9:=It l[i] (Ex.flat ko) h h.next;have K:=hE.new hE.1 (.row l[i].cells);have bo:(h.new h.next (.row l[i].cells)).at' h.next=some (.row l[i].cells):=z5 _ _ _;rw[yi Y,cN]at j;have ag:=z _ kf;have ai:Ext h (h.new h.next (.row l[i].cells)):=(Ext.refl h).new (zC _) _;have A:k=3->Own g (h.new h.next (.row l[i].cells)) 1 (qT (out.map mkA)) o:=λe=>(T e).ext ai;generalize hy:l[i]=y at *
  simp only[Ex.cells]at a1 kc b9 K bo A ai;generalize hH:h.new h.next (.row [.int .i64 y.kind,.str y.name,.str y.exc,y.d])=H at *
  clear F a2 z T;have a7:((i:Int)==0)=(i==0):=by cases i<;>rfl
  have ch:(i+1==0)=false:=rfl;cases Z:be c y with
  |none=>
   rw[Z]at j;simp only at j;have m:=p H K;rw[<-j]at m;simp only[Wg]at m;have O:dK c y=.tuple [.nilsl,.int .i64 10]:=by unfold dK;rw[Z];rfl
   rw[O]at kc;clear O p A s w j
   repeat' first|simp only[go_sem, *]|apply bc<;>intro D|(refine zD.mono (kc _) ?_;rintro r h ⟨m,rfl⟩)
  |some C=>
   rw[Z]at j;simp only at j;obtain⟨W,u⟩:=ag C Z;have O:dK c y=.tuple [.sl 1 (qT (C.map mkA)) .no,.int .i64 0]:=by unfold dK;rw[Z];rfl
   rw[O]at kc;clear O ag;cases q3:(k==3)with
   |true=>
    rw[ip q3]at j;have v:k=3:=by simpa using q3
    have bb:=A v;clear s A p
    repeat' first|simp only[go_sem, *]|apply bc<;>intro D|(refine zD.mono (kc _) ?_;rintro r h ⟨m,rfl⟩)
    subst m;refine bb.appH (ys:=qT (C.map mkA)) uG pR uK ow (sO _) (by simpa [qT]using u.ne) (by rw[yr,yr,zI,zI,tF];unfold lim;omega) (by rw[yr,yr,zI,zI];unfold lim;omega) λd' h' a9=> ?_;have a0:Own g h' 1 (qT ((out++C).map mkA)) d':=by
     have:qT ((out++C).map mkA)=qT (out.map mkA)++qT (C.map mkA):=by simp[qT]
     rw[this];exact a9
    have B:MInv c k l R g (i+1) (out++C) d' h':=⟨a0.1,j,λ_=>a0,λq=>absurd v q,λt V=>by
     rcases qB.1 V with q|q
     .exact⟨(w t q).1,zb (w t q).2 ow⟩
     .exact⟨(u.ts t q).1,zb (u.ts t q).2 ow⟩,by rw[zQ];omega⟩
    clear a9 bb j w ad u a0 v
    repeat' first|simp only[go_sem, *]|apply bc<;>intro D
    exact⟨_,_,rfl,B⟩
   |false=>
    rw[iq (by rw[q3];exact zd)]at j;have v:k≠3:=by simpa using q3
    have E:=s v;clear s A;cases q0:(i==0)with
    |true=>
     rw[ip q0]at j;have B:MInv c k l R g (i+1) C (.sl 1 (qT (C.map mkA)) .no) H:=⟨K,j,λq=>absurd q v,λ_=>.inr ⟨u.ne,rfl,W⟩,λt V=>⟨(u.ts t V).1,zb (u.ts t V).2 ow⟩,ow⟩;clear j w ad u E p;rw[q0]at a7
     repeat' first|simp only[go_sem, *]|apply bc<;>intro D|(refine zD.mono (kc _) ?_;rintro r h ⟨m,rfl⟩)
     subst m;exact⟨_,_,rfl,B⟩
    |false=>
     rw[iq (by rw[q0];exact zd)]at j;rw[q0]at a7;obtain⟨aj,ho,ba⟩:out≠[]/\o=.sl 1 (qT (out.map mkA)) .no/\out.length<=64:=by
      rcases E with⟨q,_⟩ |q
      .subst q;exact absurd q0 jD
      .exact q
     subst ho;have U:=AltsOk.pairs ⟨aj,w⟩ u;have bx:=Ur w ow;have b1:=Ur u.ts ow;have a4:=Bv (yZ.mk (sz:=1) (xs:=qT (out.map mkA)) .no) (yZ.mk (sz:=1) (xs:=qT (C.map mkA)) .no);have ak:=M7 (yZ.mk (sz:=1) (xs:=qT (out.map mkA)) .no) (yZ.mk (sz:=1) (xs:=qT (C.map mkA)) .no) bx b1 (by rw[zI];omega) (by rw[zI];omega);have bk:bj (out.map mkA) (C.map mkA)=dZ out C:=rfl;rw[bk]at ak;have cl:(dZ out C).length<=4096:=by
      rw[VS];exact zb (lT ba W) ow
     have G:=Y1 (yZ.mk (sz:=1) (xs:=qT ((dZ out C).map mkA)) .no) (by simpa using U.ne) (by rw[zI];omega) (Ur U.ts ow);rw[C8]at G;have z:=U.min;have a8:=z.ne;have au:(wm (dZ out C)).length<=1048576:=zb (ga _) ow;have a6:=λr hr=>Ja U.ne (r:=r) hr;have L:=λr hr=>Ja z.ne (r:=r) hr;generalize dZ out C=P at *
     generalize hM:wm P=M at *
     have f:=PE au;rw[ZM]at f;clear bk U bx b1 w ad u E aj
     repeat' first|simp only[go_sem, *]|apply bc<;>intro D|(refine zD.mono (kc _) ?_;rintro r h ⟨m,rfl⟩)
     subst m;clear kc;refine(a4 _).mono ?_;rintro r h1 ⟨m,rfl⟩;subst m;clear a4
     repeat' first|simp only[go_sem, *]|apply bc<;>intro D
     refine(ak _).mono ?_;rintro r h2 ⟨m,hr⟩;subst m;have hr:=a6 r hr;subst hr;clear ak
     repeat' first|simp only[go_sem, *]|apply bc<;>intro D
     refine(G _).mono ?_;rintro r h3 ⟨m,hr⟩;subst m;have hr:=L r hr;subst hr;clear G a6 L;cases hz:szd M with
     |none=>
      rw[hz]at j f;simp only at j;have m:=p _ K;rw[<-j]at m;simp only[Wg]at m f;clear p j z a8
      repeat' first|simp only[go_sem, *]|apply bc<;>intro D|refine zD.use (f _) ?_
     |some M'=>
      obtain⟨rfl,a3⟩:=YZ hz;rw[hz]at j f;simp only at j;simp only[Wg]at f;have B:MInv c k l R g (i+1) M' (.sl 1 (qT (M'.map mkA)) .no) h3:=⟨K,j,λq=>absurd q v,λ_=>.inr ⟨a8,rfl,a3⟩,λt V=>by rw[s1];exact z.ts t V,ow⟩;clear p j z
      repeat' first|simp only[go_sem, *]|apply bc<;>intro D|refine zD.use (f _) ?_
      exact⟨_,_,rfl,B⟩
 .rintro fr h ec ⟨out,o,f2,f3,b2,b3,b4,f6,⟨hE,j,T,s,w,ad⟩⟩
  have b6:l.drop l.length= []:=nW;rw[b6,cN]at j;obtain⟨X,cc⟩:=N out j.symm;have bs:yZ 1 (qT (out.map mkA)) o:=by
   by_cases v:k=3
   .exact(T v).isSl
   .rcases s v with⟨q,_⟩ | ⟨_,q,_⟩
    .omega
    .rw[q];exact yZ.mk .no
  have G:=Y1 bs (by simpa using X.ne) (by rw[zI];omega) (Ur X.ts ow);rw[C8]at G;have L:=λr hr=>Ja X.min.ne (r:=r) hr;have au:(wm out).length<=1048576:=zb (ga _) ow;have f:=PE au;rw[ZM]at f;have m:=p _ hE;rw[<-j]at m;simp only at m;clear p N T s w X bs F z a2 j;generalize wm out=M at *
  repeat' first|simp only[go_sem, *]|apply bc<;>intro D
  refine(G _).mono ?_;rintro r h3 ⟨b8,hr⟩;subst b8;have hr:=L r hr;subst hr;clear G L;cases hz:szd M with
  |none=>
   rw[hz]at f m;simp only[Wg]at m f
   repeat' first|simp only[go_sem, *]|apply bc<;>intro D|refine zD.use (f _) ?_
  |some M'=>
   rw[hz]at f m;simp only[Wg]at m f
   repeat' first|simp only[go_sem, *]|apply bc<;>intro D|refine zD.use (f _) ?_
def ofD(c:Cat)(e:Ex):D:=if(oX c e==0)=true then dK c e else .tuple [.nilsl,.int .i64 (oX c e)]
def Bf(i:uB c d)(o:c.Sm)(k:e.Ok)(m:e.size<=1048576)(g:Heap):
  zD prog 149 [d,.agg e.cells] g λr h'=>h'=g/\r=ofD c e:=by
 have b:=Yz i o k m;have j:=λ(h:oX c e=0)=>Ku i o e.size e (zC _) (Nt h).2.1 (Nt h).2.2 k;obtain⟨ca,cb,ce,cp,rfl,_,_,_,_⟩:=i;refine xP λQ p=> ?_;have f:=p (ofD c e) g ⟨rfl,rfl⟩;unfold ofD at f;simp only[Ex.cells]at b j⊢;refine zj zFP ?_;simp only[f149,zA];cases q:(oX c e==0)with
 |false=>
  rw[iq (by rw[q];exact zd)]at f
  repeat' first|simp only[go_sem, *]|apply bc<;>intro i|refine zD.use (b _) ?_
 |true=>
  rw[ip q]at f;have a:=j (by simpa using q);unfold dK at f a;cases n:be c e with
  |none=>
   rw[n]at f a;simp only[Wg]at f a
   repeat' first|simp only[go_sem, *]|apply bc<;>intro i|refine zD.use (b _) ?_|refine zD.use (a _) ?_
  |some l=>
   rw[n]at f a;simp only[Wg]at f a
   repeat' first|simp only[go_sem, *]|apply bc<;>intro i|refine zD.use (b _) ?_|refine zD.use (a _) ?_
def Qs(l:List (List Trm)):D:=.sl 1 (qT (l.map mkA)) .no
def Wr(l:List (List (List Trm))):List (List D):=l.map λa=>[Qs a]
def mQ(l:List (List (List Trm))):(Wr l).length=l.length:=zI ..
def Hy{l:List (List (List Trm))}(h:i<l.length):(Wr l)[i]? =some [Qs l[i]]:=by simp[Wr,h]
def Hz(l:List (List (List Trm))):∀x∈Wr l,x.length=1:=λx a=>by
 obtain⟨s,_,rfl⟩:=zS.1 a;rfl
def My(l:List (List (List Trm))):∀x∈Wr l,uA x:=λx b=>by
 obtain⟨s,_,rfl⟩:=zS.1 b;obtain⟨h1,a⟩:=Vn s;exact⟨rfl,by simp only[qC];exact⟨a,trivial⟩,by simp only[qU,Qs];rw[h1]⟩
def jK{l:List (List (List Trm))}(a:yZ 1 (Wr l) d)(h:Heap):o9 prog 98 d h=some (.int .i64 l.length):=by rw[wL a underlying98,mQ]
def UD{l:List (List (List Trm))}(a:yZ 1 (Wr l) d)(b:i<l.length):yc prog 98 d (.int .i64 (i:Int))=some (.iptr [Qs l[i]] 0):=yR a fW aC (Hy b)
def mZ(c:Cat)(e:Ex):Int:=if(oX c e==0)=true then(match be c e with
 |some _=>0
 |none=>10)else oX c e
def ofL(c:Cat)(e:Ex):List (List Trm):=(be c e).getD []
abbrev zIz:=List (List (List Trm)) ×List (List UInt8) ×Int
def dp(c:Cat):List Fac->List (List (List Trm))->List (List UInt8)->zIz
 | [],t,o=>(t,o,0)
 |f::fs,t,o=>if(f.kind==1)=true then(if(mZ c f.e==0)=true then dp c fs (t++ [ofL c f.e]) o else([],[],mZ c f.e))
  else if(f.kind==2)=true then dp c fs t (if(o.any (· ==f.out))=true then o else o++ [f.out])else dp c fs t o
def yV(c:Cat)(l:List Fac):zIz:=if(!((wb c l).2==0))=true then([],[],(wb c l).2)else dp c l [] []
def zE5(h:(mZ c e==0)=true):ofD c e=.tuple [Qs (ofL c e),.int .i64 0]:=by
 unfold mZ at h;unfold ofD ofL dK;split at h
 .rename_i q
  rw[ip q];split at h
  .rename_i l a;rw[a];rfl
  .exact absurd h jD
 .rename_i q;exact absurd h q
def zAF(h:(mZ c e==0)=false):ofD c e=.tuple [.nilsl,.int .i64 (mZ c e)]:=by
 unfold mZ at h⊢;unfold ofD dK;split at h
 .rename_i q
  rw[ip q,ip q];split at h
  .exact absurd h jD
  .rename_i a;rw[a];rfl
 .rename_i q;rw[iq q,iq q]
def zAR(a:List (List Trm))(nid:Nat)(h:Heap):yD prog false nid 98 1 [(0,Qs a)] h=some (.sl 1 [[Qs a]] .full,h):=
 qd (P:=prog) (x:=Qs a) fW Mq aC rfl rfl ow ow rfl rfl
structure ValI(c:Cat)(l:List Fac)(R:zIz)(g:Heap)(i:Nat)(t:List (List (List Trm)))(o:List (List UInt8))(td od:D)(h:Heap):Prop where
 own:Own2 g h 1 (Wr t) td 1 (wg o) od
 eq:dp c (l.drop i) t o=R
 tl:t.length<=i
 ol:o.length<=i
theorem UM(q:uB c d)(hs:c.Sm){l:List Fac}(X:yZ 12 (sL l) x)(hl:l.length<=1048576)(w:∀f∈l,f.Ok)(g:Heap):
  zD prog 87 [d,x] g λr h'=>h'=g/\∃td od,r=.tuple [td,od,.int .i64 (yV c l).2.2]/\Fin 1 (Wr (yV c l).1) td/\Fin 1 (wg (yV c l).2.1) od:=by
 have z:=Qv q hs X hl w;have T:=λf (hf:f∈l)=>Bf q hs (w f hf).e (w f hf).es;have Z:=nu X;have ag:=cd;obtain⟨ca,cb,ce,cp,rfl,_,_,_,_⟩:=q;refine xU kr λad=>xS ?_;refine xP λQ I=> ?_;have P:=Own2.start (Ext.refl g) 1 1;refine zj zNq ?_;simp only[f87,zA];cases q1:((wb c l).2==0)with
 |false=>
  have C:yV c l=([],[],(wb c l).2):=by unfold yV;rw[q1];rfl
  have y:=I (.tuple [.nilsl,.nilsl,.int .i64 (wb c l).2]) g ⟨Ext.refl g,by simp[qM,qU,below,qC],.nilsl,.nilsl,by rw[C];rfl,.inl ⟨rfl,by rw[C];rfl⟩,.inl ⟨rfl,by rw[C];rfl⟩⟩
  repeat' first|simp only[go_sem, *]|apply bc<;>intro q|refine zD.use (z _) ?_
 |true=>
 have C:yV c l=dp c l [] []:=by unfold yV;rw[q1];rfl
 obtain⟨R,Y⟩:∃R,dp c l [] []=R:=⟨_,rfl⟩;rw[C,Y]at I
 repeat' first|simp only[go_sem, *]|apply bc<;>intro q|(refine zD.mono (z _) ?_;rintro r h ⟨y,rfl⟩)
 refine zY (λi fr h=>∃t o td od,fr 2=.iptr [ca,cb,ce,cp] 0/\fr 24=x/\fr 25=.int .i64 (l.length:Int)/\fr 26=.int .i64 (i:Int)/\fr 9=td/\fr 10=od/\ValI c l R g i t o td od h) l.length ow ?_ ?_ ?_
 .have h0:ValI c l R g 0 [] [] .nilsl .nilsl g:=⟨P,Y,zC _,zC _⟩
  simp only[go_sem,zM,zV,zG];exact⟨_,_,_,_,rfl,rfl,h0⟩
 .clear z
  rintro i fr u v ec ew ⟨t,o,td,od,f2,M,N,O,f9,L,⟨n,m,W,U⟩⟩;have a1:=tR X v;have S:=w _ (zH v);have s:=T _ (zH v);have V:=QV S u u.next;rw[yi v,dp]at m;have G:(u.new u.next (.row l[i].cells)).at' u.next=some (.row l[i].cells):=z5 _ _ _;have j:=n.ext ((Ext.refl u).new (zC _) (.row l[i].cells));have p:=λ(h:Heap)=>kn n.b.isSl (by omega:o.length<=1048576) l[i].out h;generalize l[i]=f at *
  simp only[Fac.cells,Ex.cells]at a1 V G j s;generalize hH:u.new u.next (.row [.int .i64 f.kind,.str f.comp,.str f.out,.int .i64 f.rel,.int .i64 f.way,.int .i64 f.duty,.bool f.chg,.int .i64 f.e.kind,.str f.e.name,.str f.e.exc,f.e.d,f.d])=H at *
  have ai:yO true 4 [.int .i64 f.kind,.str f.comp,.str f.out,.int .i64 f.rel,.int .i64 f.way,.int .i64 f.duty,.bool f.chg,.int .i64 f.e.kind,.str f.e.name,.str f.e.exc,f.e.d,f.d] 7=some (.agg [.int .i64 f.e.kind,.str f.e.name,.str f.e.exc,f.e.d]):=rfl;cases q2:(f.kind==1)with
  |true=>
   rw[ip q2]at m;cases B:(mZ c f.e==0)with
   |true=>
    rw[ip B]at m;rw[zE5 B]at s;have F:=zAR (ofL c f.e)
    repeat' first|simp only[go_sem, *]|apply bc<;>intro q|(refine zD.mono (s _) ?_;rintro r h ⟨y,rfl⟩)
    subst y;refine j.appH (zs:=Wr [ofL c f.e]) fW Hb aC ow (Hz _) (by simp[Wr]) (by rw[mQ,mQ,Tp];unfold lim;simp;omega) (by rw[mQ,mQ];unfold lim;simp;omega) λK h' A=> ?_;have k:ValI c l R g (i+1) (t++ [ofL c f.e]) o K od h':=⟨by
     have:Wr (t++ [ofL c f.e])=Wr t++Wr [ofL c f.e]:=by simp[Wr]
     rw[this];exact A,m,jO,ow⟩
    repeat' first|simp only[go_sem, *]|apply bc<;>intro q
    exact⟨_,_,_,_,rfl,rfl,k⟩
   |false=>
    rw[iq (by rw[B];exact zd)]at m;rw[zAF B]at s;have y:=I (.tuple [.nilsl,.nilsl,.int .i64 (mZ c f.e)]) H ⟨j.a.1,by simp[qM,qU,below,qC],.nilsl,.nilsl,by rw[<-m];rfl,.inl ⟨rfl,by rw[<-m];rfl⟩,.inl ⟨rfl,by rw[<-m];rfl⟩⟩
    repeat' first|simp only[go_sem, *]|apply bc<;>intro q|refine zD.use (s _) ?_
  |false=>
   rw[iq (by rw[q2];exact zd)]at m;cases B:(f.kind==2)with
   |true=>
    rw[ip B]at m;cases J:(o.any (· ==f.out))with
    |true=>
     rw[ip J]at m;rw[J]at p;have k:ValI c l R g (i+1) t o td od H:=⟨j,m,ow,ow⟩
     repeat' first|simp only[go_sem, *]|apply bc<;>intro q|(refine zD.mono (p _) ?_;rintro r h ⟨y,rfl⟩)
     subst y;exact⟨_,_,_,_,rfl,rfl,k⟩
    |false=>
     rw[iq (by rw[J];exact zd)]at m;rw[J]at p;have F:=gb f.out
     repeat' first|simp only[go_sem, *]|apply bc<;>intro q|(refine zD.mono (p _) ?_;rintro r h ⟨y,rfl⟩)
     subst y;refine j.swap.appH (zs:=wg [f.out]) ww aR pK ow TH (by simp[wg]) (by rw[qm,p6];unfold lim;simp[wg];omega) (by rw[qm];unfold lim;simp[wg];omega) λK h' A=> ?_;have k:ValI c l R g (i+1) t (o++ [f.out]) td K h':=⟨by
      have:wg (o++ [f.out])=wg o++wg [f.out]:=by simp[wg]
      rw[this];exact A.swap,m,ow,jO⟩
     repeat' first|simp only[go_sem, *]|apply bc<;>intro q
     exact⟨_,_,_,_,rfl,rfl,k⟩
   |false=>
    rw[iq (by rw[B];exact zd)]at m;have k:ValI c l R g (i+1) t o td od H:=⟨j,m,ow,ow⟩
    repeat' first|simp only[go_sem, *]|apply bc<;>intro q
    exact⟨_,_,_,_,rfl,rfl,k⟩
 .rintro fr u ec ⟨t,o,td,od,f2,M,N,O,f9,L,⟨n,m,W,U⟩⟩
  rw[nW,dp]at m;have D:=n.a.2.1.fin (My t);have E:=n.b.2.1.fin (uj (l:=o));have y:=I (.tuple [td,od,.int .i64 0]) u ⟨n.a.1,by
   simp only[qM,qU,below,qC];exact⟨qQ (yM _) _ D.1,qQ (yM _) _ E.1,trivial,trivial⟩,qM td,qM od,by rw[<-m];rfl,by rw[<-m];exact D.2,by rw[<-m];exact E.2⟩
  exact au
def RX(a b:List Trm):Bool:=Zl yk a b==0
def jC(a b:List Trm):RX a b=true↔a=b:=by
 unfold RX;constructor
 .intro h;exact Ue bH _ _ (by simpa using h)
 .rintro rfl;simp[gf.list.refl]
def A2(a b:Nat):((a:Int)==(b:Int))=(a==b):=by
 by_cases h:a=b
 .simp[h]
 .rw[yv.2 h,yv.2 ow]
def zA7(x y:Trm)(c:Bool):kW prog .neq 197 c (.agg [.str x.a,.str x.b]) (.agg [.str y.a,.str y.b])=some (.bool (!(yk x y==0))):=by
 have d:eqT prog 197=some [.s,.s]:=kr;rw[fR];simp only[kW,d,L9,eqK,qZ,rh,oH]
def GJ{a b:List Trm}(B:yZ 2 (wj a) x)(C:yZ 2 (wj b) y)(K:a.length<=1048576)(g:Heap):
  zD prog 126 [x,y] g λr h'=>h'=g/\r=.bool (RX a b):=by
 have L:=uI B;have M:=uI C;refine xP λQ s=> ?_;have j:=s _ _ ⟨rfl,rfl⟩;clear s;refine zj zFI ?_;simp only[f126,zA];cases q:((a.length:Int)==(b.length:Int))with
 |false=>
  have p:RX a b=false:=by
   cases h:RX a b with
   |false=>rfl
   |true=>rw[(jC _ _).1 h]at q;simp at q
  rw[p]at j;simp only[go_sem, *]
 |true=>
 have o:a.length<=b.length/\b.length<=a.length:=by have:=yE q;omega
 obtain⟨t,w⟩:=o;simp only[go_sem, *];refine zY (λi fr h=>fr 0=x/\fr 1=y/\fr 12=.int .i64 (a.length:Int)/\fr 13=.int .i64 (i:Int)/\h=g/\a.take i=b.take i) a.length ow ?_ ?_ ?_
 .simp only[go_sem,zM,zV,zG]
  rfl
 .rintro i fr h f F J ⟨G,H,l,m,rfl,d⟩
  have c:i<b.length:=ow;have D:=pW B f;have E:=pW C c;have z:=zA7 a[i] b[i];have h1:∀(e:(yk a[i] b[i]==0)=true),a.take (i+1)=b.take (i+1):=λe=>by
   have I:=bH a[i] b[i] (by simpa using e);rw[zP f,zP c,d,I]
  have n:∀(e:(yk a[i] b[i]==0)=false),RX a b=false:=λe=>by
   cases h:RX a b with
   |false=>rfl
   |true=>
    have:=(jC _ _).1 h;subst this;rw[gf.refl]at e;exact absurd e jD
  generalize a[i]=u at *
  generalize b[i]=v at *
  simp only[Trm.cells]at D E;cases k:(yk u v==0)with
  |true=>
   have A:=h1 k;rw[k]at z;clear h1 n d j;simp only[go_sem, *];refine yJ kr ?_;simp only[go_sem, *]
  |false=>
   rw[n k]at j;rw[k]at z;clear h1 n d;simp only[go_sem, *];refine yJ kr ?_;exact au
 .rintro fr h F ⟨G,H,l,m,rfl,d⟩
  have:a=b:=by
   rw[yC,show a.length=b.length by omega,yC]at d;exact d
  rw[(jC _ _).2 this]at j;clear d this;exact au
def zJQ{a b:List Trm}(e:yZ 2 (wj a) x)(f:yZ 2 (wj b) y)(d:a.length<=1048576)(h:g.at' id=some (.row [x])):
  zD prog 125 [y,.ptr id 0] g λr h'=>h'=g/\r=.bool (RX a b):=by
 have c:=GJ e f d;refine zj zFH ?_;simp only[f125,zA]
 repeat' first|simp only[go_sem, *]|apply bc<;>intro c|refine zD.use (c _) ?_
def T7{l:List Lic}(n:yZ 4 (jv l) d)(C:l.length<=1048576){p:Lic->Bool}(z:∀s∈l,zD prog f ([]++ [.agg s.cells]++cap) g λr h'=>h'=g/\r=.bool (p s)):
  zD prog 191 [d,.fn (.func f) [] cap] g λr h'=>h'=g/\r=.int .i64 (UT p l):=by
 have o:=rF n;refine zj zFg ?_;simp only[f191,zA]
 repeat' first|simp only[go_sem, *]|apply bc<;>intro m
 refine zY (λi fr h=>fr 1=.fn (.func f) [] cap/\fr 0=d/\fr 6=d/\fr 7=.int .i64 (l.length:Int)/\fr 8=.int .i64 (i:Int)/\h=g/\∀j (b:j<l.length),j<i->p l[j]=false) l.length ow ?_ ?_ ?_
 .simp only[go_sem,zM,zV,zG]
  exact λj b h0=>by omega
 .rintro i fr h a e1 B ⟨u,t,v,w,x,rfl,b⟩
  have q:=pV n a;have e:=z _ (zH a);simp only[yU,yG,Lic.cells]at e;simp only[Lic.cells]at q;cases k:p l[i]with
  |true=>
   have A:=jF a b k;rw[k]at e
   repeat' first|simp only[go_sem, *]|apply bc<;>intro m|refine zD.use e ?_
  |false=>
   have y:=ug (p:=p) a b k;rw[k]at e
   repeat' first|simp only[go_sem, *]|apply bc<;>intro m|refine zD.use e ?_
   exact y
 .rintro fr h e1 ⟨u,t,v,w,x,rfl,b⟩
  have A:=jG (p:=p) λj c=>b j c c;exact au
def Yt{l:List Lic}(b:yZ 4 (jv l) d)(e:l.length<=1048576){p:Lic->Bool}(h:∀s∈l,zD prog f ([]++ [.agg s.cells]++cap) g λr h'=>h'=g/\r=.bool (p s)):
  zD prog 127 [d,.fn (.func f) [] cap] g λr h'=>h'=g/\r=.bool (l.any p):=by
 have a:=T7 b e h;have c:=gQ (l:=l) (p:=p);refine zj zFJ ?_;simp only[f127,zA]
 repeat' first|simp only[go_sem, *]|apply bc<;>intro i|refine zD.use a ?_
def zJR(x:Lic)(s:List UInt8)(a:g.at' id=some (.row [.str s])):
  zD prog 128 [.agg x.cells,.ptr id 0] g λr h'=>h'=g/\r=.bool (x.name==s):=by
 refine zj zFK ?_;simp only[f128,zA];simp only[Lic.cells];exact au
structure Cho where
 ts:List Alt
 own:List (List UInt8)
structure Alt.Sm(a:Alt):Prop where
 sl:yZ 2 (wj a.ts) a.d
 len:a.ts.length<=1048576
def V7(y:Cho)(d:D):Prop:=∃a b,d=.agg [a,b]/\yZ 1 (qT y.ts) a/\yZ 1 (wg y.own) b
structure Cho.Sm(y:Cho):Prop where
 tl:y.ts.length<=1048576
 ol:y.own.length<=1048576
 ts:∀a∈y.ts,a.Sm
def my(v:List (List (List Trm)))(ts:List Alt)(p:Bool)(i:Nat):Int:=match ts[i]? with
 |none=>0
 |some a=>if(p&&((a.ts.length:Int)==0))=true then 0 else if(!((v.getD i []).any λb=>RX a.ts b))=true then 1 else 0
def MN(c:Cat)(own:List (List UInt8))(p:Bool)(i:Nat):Int:=match own[i]? with
 |none=>0
 |some s=>if(p&&(s== []))=true then 0 else if(!(c.ls.any λx=>x.name==s))=true then 7 else 0
def qN(c:Cat)(l:List Fac)(y:Cho)(p:Bool):Int:=
 if(!((yV c l).2.2==0))=true then(yV c l).2.2
 else if(!((y.ts.length:Int)==((yV c l).1.length:Int))|| !((y.own.length:Int)==((yV c l).2.1.length:Int)))=true then 9
 else if(!(gT (my (yV c l).1 y.ts p) y.ts.length==0))=true then gT (my (yV c l).1 y.ts p) y.ts.length
 else gT (MN c y.own p) y.own.length
theorem zE6(h:(mZ c e==0)=true):(ofL c e).length<=64/\AltsOk 64 (ofL c e):=by
 unfold mZ at h;unfold ofL;split at h
 .rename_i q
  obtain⟨_,b,h3⟩:=Nt (show oX c e=0 by simpa using q);split at h
  .rename_i l a
   have:=(PX (c:=c) e.size).1 e (zC _) h3 l a;rw[a];exact⟨this.1,this.2.mono b⟩
  .grind
 .grind
theorem TL:∀{l:List Fac}{t:List (List (List Trm))}{o:List (List UInt8)},(∀a∈t,a.length<=64/\AltsOk 64 a)->∀a∈(dp c l t o).1,a.length<=64/\AltsOk 64 a
 | [],t,o,h=>by rw[dp];exact h
 |f::fs,t,o,h=>by
  rw[dp];split
  .split
   .rename_i q
    exact TL λa b=>by grind [zE6]
   .intro a b;cases b
  .split
   .exact TL h
   .exact TL h
def pM{l:List Fac} :∀a∈(yV c l).1,a.length<=64/\AltsOk 64 a:=by grind [yV,TL]
theorem UH(C:uB c d)(hs:c.Sm){l:List Fac}(hx:yZ 12 (sL l) x)(hl:l.length<=1048576)(a5:∀f∈l,f.Ok){y:Cho}(hy:V7 y z)(a8:y.Sm)(p:Bool)(g:Heap):
  zD prog 74 [d,x,z,.bool p] g λr h'=>h'=g/\r=.int .i64 (qN c l y p):=by
 have V:=UM C hs hx hl a5;have bb:=C;obtain⟨ca,cb,ce,cp,rfl,a3,_,_,_⟩:=C;obtain⟨ya,yb,rfl,P,hb⟩:=hy;obtain⟨y1,y2,y3⟩:=a8;have bo:=uh P;have bs:=wO hb;refine xU kr λa9=> ?_;refine xP λQ hQ=> ?_;obtain⟨E,w⟩:∃E,qN c l y p=E:=⟨_,rfl⟩;have m:∀h',Ext g h'->Q (.int .i64 E) h':=λh' I=>hQ _ _ ⟨I,trivial,by rw[w]⟩;clear hQ;unfold qN at w;refine zj zNm ?_;simp only[f74,zA]
 repeat' first|simp only[go_sem, *]|apply bc<;>intro C
 refine(V _).mono ?_;rintro r h ⟨B,td,od,rfl,J,M⟩;subst B;clear V;have X:=Ext.refl h;have J:yZ 1 (Wr (yV c l).1) td:=J.isSl;have M:yZ 1 (wg (yV c l).2.1) od:=M.isSl;have a4:=jK J;have bk:=wO M;have a7:∀a∈(yV c l).1,a.length<=1048576:=λa P=>zb (pM a P).1 ow;cases q1:((yV c l).2.2==0)with
 |false=>
  rw[ip (by rw[q1];rfl)]at w;have B:=m h X;rw[<-w]at B;clear m w
  repeat' first|simp only[go_sem, *]|apply bc<;>intro C
 |true=>
 rw[iq (by rw[q1];decide)]at w;generalize yV c l=v at *
 cases R:((y.ts.length:Int)==(v.1.length:Int))with
 |false=>
  rw[ip (by rw[R];rfl)]at w;have B:=m h X;rw[<-w]at B;clear m w
  repeat' first|simp only[go_sem, *]|apply bc<;>intro C
 |true=>
 cases q3:((y.own.length:Int)==(v.2.1.length:Int))with
 |false=>
  rw[ip (by rw[R,q3];rfl)]at w;have B:=m h X;rw[<-w]at B;clear m w
  repeat' first|simp only[go_sem, *]|apply bc<;>intro C
 |true=>
 rw[iq (by rw[R,q3];decide)]at w;have T:y.ts.length<=v.1.length:=by have:=yE R;omega
 obtain⟨F,S⟩:∃F,gT (my v.1 y.ts p) y.ts.length=F:=⟨_,rfl⟩;rw[S]at w
 repeat' first|simp only[go_sem, *]|apply bc<;>intro C
 clear q1;refine zY (λi fr u=>fr 3=.bool p/\fr 4=.iptr [ca,cb,ce,cp] 0/\fr 6=.iptr [ya,yb] 0/\fr 9=td/\fr 41=ya/\fr 42=.int .i64 (y.ts.length:Int)/\fr 43=.int .i64 (i:Int)/\Ext h u/\∀j,j<i->my v.1 y.ts p j=0) y.ts.length ow ?_ ?_ ?_
 .have h0:∀j,j<0->my v.1 y.ts p j=0:=λj D=>absurd D (yX _)
  simp only[go_sem,zM,zV,zG];exact⟨X,h0⟩
 .rintro i fr u G ec ew ⟨Y,Z,f6,f9,ad,ag,ai,I,D⟩
  have a1:=p4 P G;have a2:=UD J (show i<v.1.length by omega);have sm:=y3 _ (zH G);have k:my v.1 y.ts p i=if(p&&((y.ts[i].ts.length:Int)==0))=true then 0 else if(!(v.1[i].any λb=>RX y.ts[i].ts b))=true then 1 else 0:=by
   unfold my;rw[zB G];simp only;rw[zE,zB ow];rfl
  have q:=λ(e:my v.1 y.ts p i=0)=>pG (f:=my v.1 y.ts p) D e;have o:=λ(e:my v.1 y.ts p i≠0)=>jJ (f:=my v.1 y.ts p) G D e;rw[S]at o;have N:(u.new u.next (.row [y.ts[i].d])).at' u.next=some (.row [y.ts[i].d]):=z5 _ _ _;have K:=I.new I.1 (.row [y.ts[i].d]);have n:=gH (l:=v.1[i].map mkA) (d:=Qs v.1[i]) (yZ.mk .no) (by rw[zI];exact a7 _ (zH _)) (f:=125) (cap:=[.ptr u.next 0]) (p:=λb=>RX y.ts[i].ts b.ts) (g:=u.new u.next (.row [y.ts[i].d])) (λs hs=>by
   obtain⟨t,ht,rfl⟩:=zS.1 hs;exact⟨yZ.mk .no,zJQ sm.sl (yZ.mk .no) sm.len N⟩)
  have O:(v.1[i].map mkA).any (λb=>RX y.ts[i].ts b.ts)=v.1[i].any λb=>RX y.ts[i].ts b:=by rw[ZV];rfl
  rw[O]at n;clear O;obtain⟨k1,k2,k3⟩:=zw sm.sl;have bx:=uI sm.sl;generalize y.ts[i]=a at *
  generalize v.1[i]=b at *
  have a6:yW prog 195 (.ptr u.next 0) a.d (u.new u.next (.row [.nilsl]))=some (u.new u.next (.row [a.d])):=by
   rw[yN (off:=0) (z5 _ _ _) uK jS k1 k3,cO];rfl
  have ba:(Qs b).notTuple=true:=rfl;generalize u.new u.next (.row [a.d])=H at *
  clear D S P hb J M y3 sm R q3;cases U:p with
  |true=>
   subst U;cases W:((a.ts.length:Int)==0)with
   |true=>
    have L:=q (by rw[k,W];rfl);clear q o k n m w
    repeat' first|simp only[go_sem, *]|apply bc<;>intro C
    exact L
   |false=>
    rw[iq (by rw[W];decide)]at k;cases A:(b.any λt=>RX a.ts t)with
    |true=>
     have L:=q (by rw[k,A];rfl);rw[A]at n;clear q o k m w
     repeat' first|simp only[go_sem, *]|apply bc<;>intro C|(refine zD.mono n ?_;rintro r h ⟨B,rfl⟩)
     subst B;exact L
    |false=>
     have h1:F=1:=by rw[o (by rw[k,A];decide),k,A];rfl
     subst h1;rw[ip jD]at w;have B:=m H K;rw[<-w]at B;rw[A]at n;clear q o k m w
     repeat' first|simp only[go_sem, *]|apply bc<;>intro C|refine zD.use n ?_
  |false=>
   subst U;rw[iq (by rw[wi];decide)]at k;cases A:(b.any λt=>RX a.ts t)with
   |true=>
    have L:=q (by rw[k,A];rfl);rw[A]at n;clear q o k m w
    repeat' first|simp only[go_sem, *]|apply bc<;>intro C|(refine zD.mono n ?_;rintro r h ⟨B,rfl⟩)
    subst B;exact L
   |false=>
    have h1:F=1:=by rw[o (by rw[k,A];decide),k,A];rfl
    subst h1;rw[ip jD]at w;have B:=m H K;rw[<-w]at B;rw[A]at n;clear q o k m w
    repeat' first|simp only[go_sem, *]|apply bc<;>intro C|refine zD.use n ?_
 .rintro fr u ec ⟨Y,Z,f6,f9,ad,ag,ai,I,D⟩
  have a0:F=0:=by rw[<-S];exact sE D
  subst a0;rw[iq jD]at w;clear S D J a4 T R q3
  repeat' first|simp only[go_sem, *]|apply bc<;>intro C
  refine zY (λi fr u=>fr 3=.bool p/\fr 4=.iptr [ca,cb,ce,cp] 0/\fr 63=yb/\fr 64=.int .i64 (y.own.length:Int)/\fr 65=.int .i64 (i:Int)/\Ext h u/\∀j,j<i->MN c y.own p j=0) y.own.length ow ?_ ?_ ?_
  .have h0:∀j,j<0->MN c y.own p j=0:=λj D=>absurd D (yX _)
   simp only[go_sem,zM,zV,zG];exact⟨Y,Z,I,h0⟩
  .clear I
   rintro i fr u G ec ew ⟨Y,Z,aj,f64,ak,I,D⟩;have a1:=sP hb G;have k:MN c y.own p i=if(p&&(y.own[i]== []))=true then 0 else if(!(c.ls.any λx=>x.name==y.own[i]))=true then 7 else 0:=by
    unfold MN;rw[zB G]
   have q:=λ(e:MN c y.own p i=0)=>pG (f:=MN c y.own p) D e;have o:=λ(e:MN c y.own p i≠0)=>jJ (f:=MN c y.own p) G D e;rw[w]at o;generalize y.own[i]=s at *
   have N:(u.new u.next (.row [.str s])).at' u.next=some (.row [.str s]):=z5 _ _ _;have K:=I.new I.1 (.row [.str s]);have n:=Yt a3 hs.ls.1 (f:=128) (cap:=[.ptr u.next 0]) (p:=λx=>x.name==s) (g:=u.new u.next (.row [.str s])) (λx _=>zJR x s N);have a6:yW prog 9 (.ptr u.next 0) (.str s) (u.new u.next (.row [.str []]))=some (u.new u.next (.row [.str s])):=by
    rw[yN (off:=0) (z5 _ _ _) pK jS rfl rfl,cO];rfl
   generalize u.new u.next (.row [.str s])=H at *
   clear D w P hb M y3;cases U:p with
   |true=>
    subst U;cases W:(s== [])with
    |true=>
     have L:=q (by rw[k,W];rfl);clear q o k n m
     repeat' first|simp only[go_sem, *]|apply bc<;>intro C
     exact L
    |false=>
     rw[iq (by rw[W];decide)]at k;cases A:(c.ls.any λx=>x.name==s)with
     |true=>
      have L:=q (by rw[k,A];rfl);rw[A]at n;clear q o k m
      repeat' first|simp only[go_sem, *]|apply bc<;>intro C|(refine zD.mono n ?_;rintro r h ⟨B,rfl⟩)
      subst B;exact L
     |false=>
      have h1:E=7:=by rw[o (by rw[k,A];decide),k,A];rfl
      subst h1;have B:=m H K;rw[A]at n;clear q o k m
      repeat' first|simp only[go_sem, *]|apply bc<;>intro C|refine zD.use n ?_
   |false=>
    subst U;rw[iq (by rw[wi];decide)]at k;cases A:(c.ls.any λx=>x.name==s)with
    |true=>
     have L:=q (by rw[k,A];rfl);rw[A]at n;clear q o k m
     repeat' first|simp only[go_sem, *]|apply bc<;>intro C|(refine zD.mono n ?_;rintro r h ⟨B,rfl⟩)
     subst B;exact L
    |false=>
     have h1:E=7:=by rw[o (by rw[k,A];decide),k,A];rfl
     subst h1;have B:=m H K;rw[A]at n;clear q o k m
     repeat' first|simp only[go_sem, *]|apply bc<;>intro C|refine zD.use n ?_
  .clear I
   rintro fr u ec ⟨Y,Z,aj,f64,ak,I,D⟩;have h1:E=0:=by rw[<-w];exact sE D
   subst h1;have B:=m u I;clear D m w;exact au
def Rj(l:List Int):∀x∈wt l,x.length=1:=λx a=>by
 obtain⟨s,_,rfl⟩:=zS.1 a;rfl
def XS(l:List Int):∀x∈wt l,uA x:=λx a=>by
 obtain⟨s,_,rfl⟩:=zS.1 a;exact⟨rfl,by simp[qC,below],rfl⟩
def ML(n:Int)(nid:Nat)(h:Heap):yD prog false nid 30 1 [(0,.int .i64 n)] h=some (.sl 1 [[.int .i64 n]] .full,h):=
 qd (P:=prog) (x:=.int .i64 n) wA pc sG rfl rfl ow ow rfl rfl
def Mu(c:Cat)(t:List (List (List Trm)))(o:List (List UInt8))(cs:List D):Prop:=∃td od a b e p,cs= [td,od,a,b,e,p]/\yZ 1 (Wr t) td/\yZ 1 (wg o) od/\uB c (.agg [a,b,e,p])
def We(c:Cat)(t:List (List (List Trm)))(o:List (List UInt8)):List Nat:=t.map List.length++o.map λ_=>c.ls.length
def az(l:List Nat):List Int:=l.map λ(n:Nat)=>(n:Int)
def Ri(l:List Int)(n:Int):wt (l++ [n])=wt l++wt [n]:=by simp[wt]
def BP(a b c d e f:D):yO true 6 [a,b,c,d,e,f] 0=some (.agg [a,b,c,d,e,f]):=zJ rfl ow
def K2{t:List (List (List Trm))}{o:List (List UInt8)}(S:Mu c t o cs)(hs:c.Sm)(V:t.length<=1048576)(U:o.length<=1048576)(g:Heap):
  zD prog 97 [.agg cs] g λr h'=>h'=g/\Fin 1 (wt (az (We c t o))) r:=by
 obtain⟨td,od,a,b,e,p,rfl,B,I,R⟩:=S;obtain⟨_,_,_,_,H,v,_,_,_⟩:=R;cases H;have l1:=jK B;have l2:=wO I;have l3:=rF v;have K:=λ(x:List (List Trm)) (h:Heap)=>uh (l:=x.map mkA) (d:=Qs x) (yZ.mk .no) h;have W:∀(x:List (List Trm))(h:Heap),o9 prog 44 (Qs x) h=some (.int .i64 (x.length:Int)):=λx h=>by have:=K x h;rwa [zI]at this
 clear K;refine xU kr λJ=>xS ?_;refine xP λQ A=> ?_;have G:=Own.start (Ext.refl g) 1;refine zj zNx ?_;simp only[f97,zA];simp only[go_sem, *];refine zY (λi fr h=>∃s,fr 1=.iptr [td,od,a,b,e,p] 0/\fr 7=td/\fr 8=.int .i64 (t.length:Int)/\fr 9=.int .i64 (i:Int)/\fr 3=s/\Own g h 1 (wt (az ((t.take i).map List.length))) s) t.length ow ?_ ?_ ?_
 .simp only[go_sem,zM,zV,zG]
  exact⟨_,rfl,G⟩
 .rintro i fr h q C M ⟨s,y,N,O,P,z,f⟩
  have X:=UD B q;have Y:=W t[i];have n:az ((t.take (i+1)).map List.length)=az ((t.take i).map List.length)++ [(t[i].length:Int)]:=by rw[zP q,wD];simp only[az,wD];rfl
  have k:(az ((t.take i).map List.length)).length=i:=by simp[az];omega
  rw[n];clear n;generalize t[i]=x at *
  generalize az ((t.take i).map List.length)=pre at *
  have w:=ML (x.length:Int);have T:(Qs x).notTuple=true:=rfl;clear A B I v;simp only[go_sem, *];refine f.appH (ys:=wt [(x.length:Int)]) wA V5 sG ow (Rj _) (by simp[wt]) (by rw[wE,fO,k];unfold lim;simp[wt];omega) (by rw[wE,k];unfold lim;simp[wt];omega) λL h' m=> ?_;rw[<-Ri]at m;clear f;simp only[go_sem, *];exact⟨_,rfl,m⟩
 .rintro fr h C ⟨s,y,N,O,P,z,f⟩
  rw[yC]at f;have u:∀j,az (t.map List.length++(o.take j).map λ_=>c.ls.length)=az (t.map List.length)++az ((o.take j).map λ_=>c.ls.length):=λj=>by simp[az]
  simp only[go_sem, *];refine zY (λi fr h=>∃s,fr 1=.iptr [td,od,a,b,e,p] 0/\fr 20=od/\fr 21=.int .i64 (o.length:Int)/\fr 22=.int .i64 (i:Int)/\fr 3=s/\Own g h 1 (wt (az (t.map List.length++(o.take i).map λ_=>c.ls.length))) s) o.length ow ?_ ?_ ?_
  .have h0:Own g h 1 (wt (az (t.map List.length++(o.take 0).map λ_=>c.ls.length))) s:=by simpa using f
   simp only[go_sem,zM,zV,zG];exact⟨s,y,z,h0⟩
  .clear f
   rintro i fr h q C M ⟨s,y,D,E,F,z,f⟩;have n:az (t.map List.length++(o.take (i+1)).map λ_=>c.ls.length)=az (t.map List.length++(o.take i).map λ_=>c.ls.length)++ [(c.ls.length:Int)]:=by rw[zP q,wD,<-qV];simp only[az,wD];rfl
   have k:(az (t.map List.length++(o.take i).map λ_=>c.ls.length)).length=t.length+i:=by simp[az];omega
   rw[n];clear n u;generalize az (t.map List.length++(o.take i).map λ_=>c.ls.length)=pre at *
   have w:=ML (c.ls.length:Int);clear A B I v;simp only[go_sem, *];refine f.appH (ys:=wt [(c.ls.length:Int)]) wA V5 sG ow (Rj _) (by simp[wt]) (by rw[wE,fO,k];unfold lim;simp[wt];omega) (by rw[wE,k];unfold lim;simp[wt];omega) λL h' m=> ?_;rw[<-Ri]at m;clear f;simp only[go_sem, *];exact⟨_,rfl,m⟩
  .clear f
   rintro fr h C ⟨s,y,D,E,F,z,f⟩;rw[yC]at f;have hf:=f.2.1.fin (XS _);have Z:=A s h ⟨f.1,qQ (yM _) _ hf.1,hf.2⟩;clear A f hf u;exact au
def Hm:List Nat->Nat->Nat
 | [],n=>n
 |r::rs,n=>if n*r>4096 then n*r else Hm rs (n*r)
def L7(l:List Nat):Nat:=if l.any (· ==0)then 0 else Hm l 1
def JD{t:List (List (List Trm))}{o:List (List UInt8)}(M:Mu c t o cs)(O:c.Sm)(ad:t.length<=524288)(Y:o.length<=524288)(hr:∀x∈t,x.length<=1048576)(g:Heap):
  zD prog 51 [.agg cs] g λr h'=>h'=g/\r=.int .i64 ((L7 (We c t o):Nat):Int):=by
 have H:=K2 M O ow ow;obtain⟨td,od,a,b,e,p,rfl,ht,ho,u⟩:=M;have h6:=BP;have I:∀r∈We c t o,r<=1048576:=λr G=>by
  rcases qB.1 G with q|q
  .obtain⟨x,P,rfl⟩:=zS.1 q;exact hr x P
  .obtain⟨x,P,rfl⟩:=zS.1 q;exact O.ls.1
 have W:(We c t o).length<=1048576:=by simp[We];omega
 refine xP λQ V=> ?_;have f:=V _ _ ⟨rfl,rfl⟩;unfold L7 at f;generalize We c t o=L at *
 refine zj zNi ?_;simp only[f51,zA]
 repeat' first|simp only[go_sem, *]|apply bc<;>intro u
 refine(H _).mono ?_;rintro r h ⟨F,hf⟩;subst F;have k:=hf.isSl;have E:(az L).length=L.length:=by simp[az]
 have d:=Yy k ow 0;have l:=t8 k;rw[E]at l;have B:((az L).any λx=>x==0)=L.any (· ==0):=by
  rw[az,ZV];congr 1
  funext x
  exact A2 x 0
 rw[B]at d;cases q:L.any (· ==0)with
 |true=>
  rw[ip q]at f;have Z:Q (.int .i64 0) h:=f;rw[q]at d
  repeat' first|simp only[go_sem, *]|apply bc<;>intro u|refine zD.use (d _) ?_
 |false=>
 rw[iq (by rw[q];exact zd)]at f;rw[q]at d;obtain⟨R,J⟩:∃R,Hm L 1=R:=⟨_,rfl⟩;rw[J]at f
 repeat' first|simp only[go_sem, *]|apply bc<;>intro u|(refine zD.mono (d _) ?_;rintro r h ⟨F,rfl⟩)
 subst F
 rename Heap=>g
 refine zY (λi fr h=>∃n:Nat,fr 11=r/\fr 12=.int .i64 (L.length:Int)/\fr 13=.int .i64 (i:Int)/\fr 4=.int .i64 (n:Int)/\h=g/\n<=4096/\Hm (L.drop i) n=R) L.length ow ?_ ?_ ?_
 .simp only[go_sem,zM,zV,zG]
  exact⟨1,rfl,ow,J⟩
 .rintro i fr h s T ew ⟨n,v,w,z,U,rfl,N,j⟩
  have S:=lX k (show i<(az L).length by omega);have D:(az L)[i]'ow=((L[i]:Nat):Int):=by simp[az]
  rw[D]at S;have A:=I _ (zH s);rw[yi s,Hm]at j;generalize L[i]=y at *
  have hm:n*y<=4096*1048576:=lT N A;have hw:IntKind.i64.wrap ((n:Int)*(y:Int))=((n*y:Nat):Int):=by rw[qP (by rw[<-mI];omega) (by rw[<-mI];omega),mI]
  generalize X:n*y=m at *
  by_cases K:m>4096
  .have e1:decide ((m:Int)>4096)=true:=zR ow
   rw[ip K]at j;subst j;exact au
  .have e1:decide ((m:Int)>4096)=false:=zN ow
   rw[iq K]at j;have C:m<=4096:=ow
   repeat' first|simp only[go_sem, *]|apply bc<;>intro u
   exact⟨m,rfl,C,j⟩
 .rintro fr h T ⟨n,v,w,z,U,rfl,N,j⟩
  rw[nW,Hm]at j;subst j;exact au
def zLY:Pb prog LN f153=true:=kr
def Kk(h0:ts≠[])(o:ts.length<=1048576)(g:Heap):
  zD prog 153 [(mkA ts).d] g λr h'=>h'=g/\r=(mkA ts).d:=by
 refine xU kr λj=>xS ?_;have c:Ext g g:=Ext.refl g;have n:(mkA ts).d=.sl 2 (wj ts) .no:=rfl;have p:kW prog .eql 195 true (.sl 2 (wj ts) .no) .nilsl=some (.bool false):=by rw[um (yZ.mk .no) underlying195];rfl
 have t:=λnid h=>wT (P:=prog) (nid:=nid) (h:=h) wp sH uO rfl rfl (by omega:0<2);have i:qS prog false g.next 195 (.sl 2 [] .full) (.sl 2 (wj ts) .no) g=some (.sl 2 (wj ts) (.own g.next),g.new g.next .tok):=by
  rw[gy wp Ye uO ow (pQ ts) (by rw[kA,wc];unfold lim;omega) (by rw[wc];unfold lim;omega),iq (by rw[wc];exact λq=>h0 (ye.1 q))]
 have e:=c.new (zC _) .tok;have a:=qY (sz:=2) (xs:=wj ts) (λx k=>by
  obtain⟨y,_,rfl⟩:=zS.1 k;exact⟨rfl,by simp[Trm.cells,qC,below],rfl⟩) (.own g.next)
 have b:below g.next (qM (.sl 2 (wj ts) (.own g.next)))/\qM (.sl 2 (wj ts) (.own g.next))=.sl 2 (wj ts) .no:=⟨by rw[a.1];exact qQ (yM _) _ a.2,a.1⟩;obtain⟨l,m⟩:=b;refine xP λQ f=> ?_;have s:=f _ _ ⟨e,l,m⟩;refine xO mix func153 zLY rfl rfl ?_;simp only[f153,zA];simp only[go_sem,zIB, *]
def nd(sz:Nat):List (List D)->D
 | []=>.nilsl
 |x::xs=>.sl sz (x::xs) .no
theorem aG{c:Cat} :∀{l:List Fac}{t:List (List (List Trm))}{o:List (List UInt8)},(dp c l t o).1.length<=t.length+l.length/\(dp c l t o).2.1.length<=o.length+l.length
 | [],t,o=>by rw[dp];simp
 |f::fs,t,o=>by
  rw[dp];split
  .split
   .have:=aG (c:=c) (l:=fs) (t:=t++ [ofL c f.e]) (o:=o)
    grind
   .simp
  .split
   .split
    .have:=aG (c:=c) (l:=fs) (t:=t) (o:=o)
     grind
    .have:=aG (c:=c) (l:=fs) (t:=t) (o:=o++ [f.out])
     grind
   .have:=aG (c:=c) (l:=fs) (t:=t) (o:=o)
    grind
def dC{l:List Fac} :(yV c l).1.length<=l.length/\(yV c l).2.1.length<=l.length:=by grind [yV,aG]
def BM(c:Cat)(l:List Fac):Nat:=L7 (We c (yV c l).1 (yV c l).2.1)
def qi(c:Cat)(l:List Fac):Int:=if(!((yV c l).2.2==0))=true then(yV c l).2.2 else if decide ((BM c l:Int)>4096)=true then 10 else 0
abbrev Qk:List D:=[.nilsl,.nilsl,.nilsl,.nilsl,.nilsl,.nilsl]
def XU{a b e p:D}(h:uB c (.agg [a,b,e,p])):(a.flat=true/\b.flat=true)/\e.flat=true/\p.flat=true:=by
 obtain⟨_,_,_,_,d,f,g,i,j⟩:=h;cases d;exact⟨⟨(zw f).2.2,(zw g).2.2⟩,(zw i).2.2,(zw j).2.2⟩
def JE{a b e p:D}(h:uB c (.agg [a,b,e,p])):(a.cells= [a]/\b.cells= [b])/\e.cells= [e]/\p.cells= [p]:=by grind [zw,uB]
def Ko(j:uB c d)(I:c.Sm){l:List Fac}(W:yZ 12 (sL l) x)(hl:l.length<=65536)(A:∀f∈l,f.Ok)(g:Heap):
  zD prog 50 [d,x] g λr h'=>Ext g h'/\∃cs,r=.tuple [.agg cs,.int .i64 (qi c l)]/\(cs.length=6/\cs.all D.flat=true)/\(qi c l=0->Mu c (yV c l).1 (yV c l).2.1 cs):=by
 have E:=UM j I W ow A;obtain⟨X,Y⟩:=dC (c:=c) (l:=l);have C:=λcs (w:Mu c (yV c l).1 (yV c l).2.1 cs)=>JD w I ow ow λa T=>zb (pM a T).1 ow;have k:=j;obtain⟨ca,cb,ce,cp,rfl,_,_,_,_⟩:=j;obtain⟨⟨N,O⟩,P,R⟩:=XU k;obtain⟨⟨Z,D2⟩,D3,D4⟩:=JE k;have h6:=BP;refine xP λQ z=> ?_;have U:qW prog 100 []=some (.agg Qk):=by simp[qW,Xp,Ql,ua,D.notTuple,D.cells]
 obtain⟨G,hG,L,y,n0⟩:∃G,g.new g.next (.row Qk)=G/\G.at' g.next=some (.row Qk)/\Ext g G/\g.next<G.next:=⟨_,rfl,z5 _ _ _,(Ext.refl g).new (zC _) _,by rw[za];omega⟩;have u:∀cs:List D,cs.length=6->cs.all D.flat=true->yW prog 100 (.ptr g.next 0) (.agg cs) G=some (G.set g.next (.row cs)):=λcs h1 S=>ql L (by rw[WG,h1]) (by rw[h1];rfl) ow S;refine zj zNh ?_;simp only[f50,zA]
 repeat' first|simp only[go_sem, *]|apply bc<;>intro j
 refine(E _).mono ?_;rintro r h ⟨hq,td,od,rfl,o,n⟩;cases v:((yV c l).2.2==0)with
 |false=>
  have i:qi c l=(yV c l).2.2:=by unfold qi;rw[v];rfl
  have t:=u Qk rfl rfl;have q:=zW G g.next (.row Qk);have s:=z (.tuple [.agg Qk,.int .i64 (yV c l).2.2]) (G.set g.next (.row Qk)) ⟨y.set (zC _) _,Qk,by rw[i],⟨rfl,rfl⟩,λe=>by rw[i]at e;rw[e]at v;exact absurd v jD⟩
  repeat' first|simp only[go_sem, *]|apply bc<;>intro j
 |true=>
 have V:qW prog 100 [(0,td),(1,od),(2,.agg [ca,cb,ce,cp])]=some (.agg [td,od,ca,cb,ce,cp]):=by
  rcases o.isSl with⟨rfl,_⟩ | ⟨_,rfl⟩ <;>rcases n.isSl with⟨rfl,_⟩ | ⟨_,rfl⟩ <;>simp[qW,Xp,Ql,ua,wS,D.cells,D.notTuple]
 have w:Mu c (yV c l).1 (yV c l).2.1 [td,od,ca,cb,ce,cp]:=⟨_,_,_,_,_,_,rfl,o.isSl,n.isSl,k⟩;have b:=C _ w;have m:([td,od,ca,cb,ce,cp]:List D).all D.flat=true:=by simp[(zw o.isSl).2.2,(zw n.isSl).2.2,N,O,P,R]
 have J:yW prog 100 (.ptr G.next 0) (.agg [td,od,ca,cb,ce,cp]) (G.new G.next (.row Qk))=some (G.new G.next (.row [td,od,ca,cb,ce,cp])):=ym WG ow rfl rfl m;obtain⟨H,hH,r1,F,n1,M⟩:∃H,G.new G.next (.row [td,od,ca,cb,ce,cp])=H/\H.at' G.next=some (.row [td,od,ca,cb,ce,cp])/\Ext G H/\g.next<H.next/\H.at' g.next=some (.row Qk):=⟨_,rfl,z5 _ _ _,(Ext.refl G).new (zC _) _,by rw[za];omega,by rw[zf ow];exact L⟩;have p:L7 (We c (yV c l).1 (yV c l).2.1)=BM c l:=rfl;rw[p]at b;cases K:decide ((BM c l:Int)>4096)with
 |true=>
  have i:qi c l=10:=by unfold qi;rw[v,K];rfl
  have t:yW prog 100 (.ptr g.next 0) (.agg Qk) H=some (H.set g.next (.row Qk)):=ql M WG rfl jD rfl;have q:=zW H g.next (.row Qk);have s:=z (.tuple [.agg Qk,.int .i64 10]) (H.set g.next (.row Qk)) ⟨(y.trans F).set (zC _) _,Qk,by rw[i],⟨rfl,rfl⟩,λe=>by rw[i]at e;exact absurd e jD⟩
  repeat' first|simp only[go_sem, *]|apply bc<;>intro j|(refine zD.mono (b _) ?_;rintro r h ⟨B,rfl⟩)
 |false=>
  have i:qi c l=0:=by unfold qi;rw[v,K];rfl
  have t:yW prog 100 (.ptr g.next 0) (.agg [td,od,ca,cb,ce,cp]) H=some (H.set g.next (.row [td,od,ca,cb,ce,cp])):=ql M WG rfl jS m;have q:=zW H g.next (.row [td,od,ca,cb,ce,cp]);have s:=z (.tuple [.agg [td,od,ca,cb,ce,cp],.int .i64 0]) (H.set g.next (.row [td,od,ca,cb,ce,cp])) ⟨(y.trans F).set (zC _) _,_,by rw[i],⟨rfl,m⟩,λ_=>w⟩
  repeat' first|simp only[go_sem, *]|apply bc<;>intro j|(refine zD.mono (b _) ?_;rintro r h ⟨B,rfl⟩)
def XB(c:Cat)(l:List Fac):D:=if(qi c l==0)=true then .tuple [.int .i64 (BM c l:Int),.int .i64 0]else .tuple [.int .i64 0,.int .i64 (qi c l)]
def Q7(e:uB c d)(t:c.Sm){l:List Fac}(C:yZ 12 (sL l) x)(z:l.length<=65536)(k:∀f∈l,f.Ok)(g:Heap):
  zD prog 19 [d,x] g λr h'=>h'=g/\r=XB c l:=by
 have i:=Ko e t C z k;obtain⟨D,E⟩:=dC (c:=c) (l:=l);have m:=λcs (j:Mu c (yV c l).1 (yV c l).2.1 cs)=>JD j t ow ow λa y=>zb (pM a y).1 ow;have p:L7 (We c (yV c l).1 (yV c l).2.1)=BM c l:=rfl;obtain⟨ca,cb,ce,cp,rfl,_,_,_,_⟩:=e;refine xU kr λq=> ?_;refine xP λQ G=> ?_;have b:∀h',Ext g h'->Q (XB c l) h':=by grind [XB,below,qC]
 unfold XB at b;refine zj zNc ?_;simp only[f19,zA]
 repeat' first|simp only[go_sem, *]|apply bc<;>intro e
 refine(i _).mono ?_;rintro r h ⟨w,cs,rfl,⟨o,cf⟩,j⟩;have u:yW prog 100 (.ptr h.next 0) (.agg cs) (h.new h.next (.row Qk))=some (h.new h.next (.row cs)):=ym WG ow rfl o cf;obtain⟨H,F,r1,v⟩:∃H,h.new h.next (.row cs)=H/\H.at' h.next=some (.row cs)/\Ext h H:=⟨_,rfl,z5 _ _ _,(Ext.refl h).new (zC _) _⟩;have s:=b H (w.trans v);have B:=zJ o ow;cases n:(qi c l==0)with
 |false=>
  rw[iq (by rw[n];exact zd)]at s
  repeat' first|simp only[go_sem, *]|apply bc<;>intro e
 |true=>
  rw[ip n]at s;have A:=m cs (j (by simpa using n))
  repeat' first|simp only[go_sem, *]|apply bc<;>intro e|refine zD.use (A _) ?_
def Nn{l:List Fac}(h:qi c l=0):BM c l<=4096:=by grind [qi]
def wP(p:Fac->Bool):List Fac->Nat->List Nat
 | [],_=>[]
 |f::fs,k=>if p f then k::wP p fs (k+1)else wP p fs (k+1)
theorem o7(p:Fac->Bool):∀(l m:List Fac)(k:Nat),wP p (l++m) k=wP p l k++wP p m (k+l.length)
 | [],m,k=>by simp[wP]
 |f::l,m,k=>by
  simp only[yG,wP,o7 p l m (k+1),zx];rw[show k+1+l.length=k+(l.length+1) by omega];split<;>simp
theorem pf(p:Fac->Bool):∀(l:List Fac)(k:Nat),∀i∈wP p l k,k<=i/\i<k+l.length
 | [],k,i,h=>by simp[wP]at h
 |f::l,k,i,h=>by
  simp only[wP]at h;have a:=pf p l (k+1);split at h
  .rcases z7.1 h with rfl|h
   .simp
   .have:=a i h;simp;omega
  .have:=a i h;simp;omega
def KQ(p:Fac->Bool)(l:List Fac)(i:Nat):Nat:=(wP p (l.take i) 0).length
def Jn{p:Fac->Bool}{l:List Fac}(h:i<l.length)(a:p l[i]=false):KQ p l (i+1)=KQ p l i:=by
 unfold KQ;rw[zP h,o7];simp[wP,a]
def G9{p:Fac->Bool}{l:List Fac}(h:i<l.length)(a:p l[i]=true):KQ p l (i+1)=KQ p l i+1/\(wP p l 0)[KQ p l i]? =some i:=by
 constructor
 .unfold KQ
  rw[zP h,o7];simp[wP,a]
 .unfold KQ
  have e:l=l.take i++l[i]::l.drop (i+1):=by rw[List.getElem_cons_drop,qg]
  have e2:wP p l 0=wP p (l.take i) 0++wP p (l[i]::l.drop (i+1)) (0+(l.take i).length):=by
   rw[<-o7,<-e]
  rw[e2,yf (zC _),ZX];have e3:(l.take i).length=i:=by rw[yB];omega
  simp[wP,a,e3]
def G8{p:Fac->Bool}{l:List Fac} :KQ p l l.length=(wP p l 0).length:=by
 unfold KQ;rw[yC]
def gP(sc:List D)(kind:Int)(hf:D):D:=.fn (.func 365) [] [.iptr [.iptr sc 0] 0,.iptr [.int .i64 kind] 0,.iptr [hf] 0]
def aa(sc:List D)(kind:Int){hf:D}(b:∃f a c,hf=.fn f a c)(h:Heap):zD prog 286 [.iptr sc 0,.int .i64 kind,hf] h λr h'=>h'=h/\r=gP sc kind hf:=by
 obtain⟨fr,a,c,rfl⟩:∃f a c,hf=.fn f a c:=b;refine zj zGA ?_;simp only[f286,zA];simp only[go_sem,gP]
theorem tK(p:Fac->Bool):∀(l:List Fac)(k:Nat),(wP p l k).length<=l.length
 | [],_=>zC _
 |f::l,k=>by
  simp only[wP];have:=tK p l (k+1);split<;>simp only[zx]<;>omega
def isF(kind:Int)(q:Fac->Bool)(f:Fac):Bool:=f.kind==kind&&q f
def fIx(kind:Int)(q:Fac->Bool)(fs:List Fac):List Nat:=wP (isF kind q) fs 0
abbrev elI(l:List Nat)(k:Nat):List D:=[.int .i64 ((l.getD k 0:Nat):Int)]
def fQ{hf:D}{q:Fac->Bool}(U:sc[4]? =some x)(hx:yZ 12 (sL fs) x)(hl:fs.length<=1048576)(T:∀f∈fs,f.Ok){Y:Nat->(Nat->Prop)->Heap->Prop}
  (y:Yld prog id (fIx N q fs).length (elI (fIx N q fs)) Y λ_ _=>False)
  {S R:Nat->Prop} (hR:∀i,R i->i<h.next/\(¬S i\/∀k S h',Y k S h'->h'.at' i=h.at' i)) (hq:∀f∈fs,∀o:Heap,(∀i,R i->o.at' i=h.at' i)->ZY prog hf [.agg f.cells] o λr h3=>h3=o/\r=.bool (q f)) (hY:Y 0 S h):
  zD prog 365 [.yld id,.iptr [.iptr sc 0] 0,.iptr [.int .i64 N] 0,.iptr [hf] 0] h λ_ h'=>∃S',(∀j,S' j->S j\/h.next<=j)/\But S h h'/\Y (fIx N q fs).length S' h':=by
 refine zj zGT ?_;simp only[f365,zA];have O:=nu hx;simp only[go_sem,qL,U,O];refine qn (λi fr h'=>fr 0=.yld id/\fr 2=.iptr [.int .i64 N] 0/\fr 3=.iptr [hf] 0/\fr 10=x/\fr 11=.int .i64 fs.length/\fr 12=.int .i64 (i:Int)/\∃S',(∀j,S' j->S j\/h.next<=j)/\But S h h'/\Y (KQ (isF N q) fs i) S' h') fs.length ?_ ?_
 .simp only[go_sem,zM,zV,zG]
  exact⟨S,λj n=>.inl n,But.refl S h,hY⟩
 rintro i fr h' X ⟨t,u,v,c,d,e,S',w,l,g⟩;simp only[go_sem,t,u,v,c,d,e];by_cases b:i<fs.length
 .rw[zR (show(i:Int)<fs.length by exact_mod_cast b)]
  have Z:fs[i]∈fs:=zH b;have W:=tR hx b;have hw:yO true 12 fs[i].cells 0=some (.agg fs[i].cells):=zJ rfl ow;have C:=QV (T _ Z);have m:Ext h' (h'.new h'.next (.row fs[i].cells)):=(Ext.refl h').new (zC _) _;have a:But S h (h'.new h'.next (.row fs[i].cells)):=l.trans (m.but S) λi X=>.inl X;have A:fs[i].cells[0]? =some (.int .i64 fs[i].kind):=rfl;have G:IntKind.i64.wrap ((i:Int)+1)=((i+1:Nat):Int):=qH jL;cases F:(fs[i].kind==N)with
  |false=>
   simp only[go_sem,t,u,v,c,d,e,W,hw,C,A,F,G,zM];refine⟨b,S',w,a,?_⟩;rw[Jn b (by simp[isF,F])];exact y.ext g m
  |true=>
   simp only[go_sem,t,u,v,c,d,e,W,hw,C,A,F];refine ZY.mono (Q:=λr h3=>h3=h'.new h'.next (.row fs[i].cells)/\r=.bool (q fs[i])) ?_ (hq _ Z _ λj n=> ?_)
   rotate_left
   .obtain⟨h1,o|o⟩:=hR j n
    .exact a.2 j h1 o
    .have:=l.1
     rw[zf ow,o _ _ _ g]
   rintro r h3 ⟨rfl,rfl⟩;cases B:q fs[i]with
   |false=>
    simp only[go_sem,t,u,v,c,d,e,G,zM];refine⟨b,S',w,a,?_⟩;rw[Jn b (by simp[isF,B])];exact y.ext g m
   |true=>
    obtain⟨n1,n2⟩:=G9 (p:=isF N q) b (by simp[isF,F,B]);have P:=(zK.1 n2).1;have L:(fIx N q fs).getD (KQ (isF N q) fs i) 0=i:=by rw[zE,fIx,n2];rfl
    have z:=y.go _ S' _ P (y.ext g m);simp only[elI,L]at z;simp only[go_sem,t,u,v,c,d,e];refine z.mono ?_;rintro r h3 ⟨V,H,K,hr⟩;have s:But S h h3:=a.trans K w;have E:∀j,V j->S j\/h.next<=j:=λj n=>by
     rcases H j n with n|n
     .exact w j n
     .have h1:=a.1
      exact .inr ow
    rcases hr with⟨rfl,I⟩ | ⟨rfl,J⟩
    .simp only[go_sem,t,u,v,c,d,e,vun,G,zM]
     exact⟨b,V,E,s,by rw[n1];exact I⟩
    .exact J.elim
 .have M:i=fs.length:=ow
  subst M;rw[zN ow];simp only[go_sem];rw[G8]at g;exact⟨S',w,l,g⟩
end Go.V
