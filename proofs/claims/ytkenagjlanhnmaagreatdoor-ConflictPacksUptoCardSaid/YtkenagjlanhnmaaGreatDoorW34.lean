/- Rules of the machine of abstract values, part 10. No condition. -/
import Derived.Test.YtkenagjlanhnmaaGreatDoorW33
set_option linter.all false
set_option maxHeartbeats 8000000
namespace Go.V
open Go.Shelf Go.Proofs Go.Sort
open Go.RowKit (Below)
variable{α:Type}{id n i j:Nat}{g h0 h:Heap}{ts:List Trm}{d x y z:D}{S:Nat->Prop}{c:Cat}{e:Ex}{f:FuncId}{cap cs sc:List D}{fs:List Fac}{N:Int}
def W2 [Inhabited α](enc:α->Value)(w:World)(a off m:Nat)(c:Array α)(d:Array Go.Obj):∀b,b≠a->b<w.heap.size->(sortWorld enc w a off m c d).heap[b]? =w.heap[b]? :=λb f g=>by
 show((putRow enc (Go.Sort.ahead w m) a off c).heap++d)[b]? =_;have h:(putRow enc (Go.Sort.ahead w m) a off c).heap.size=w.heap.size:=by simp[putRow,mapBlock,Go.Sort.ahead]
 rw[tu ow];show((Go.Sort.ahead w m).heap.modify a _)[b]? =_;rw[rZ,iq (λe=>f e.symm)];rfl
section
variable{P:Program}{f cmp:FuncId}{β:Type}{dd:β->D}{xs:List β}{id:Nat}{pre post:List D}{h:Heap}{cf:β->β->Int}
abbrev U3(dd:β->D)(xs:List β)(M:Imm)(ρ:Ren):= {p:β×Value // p.1∈xs/\rel M ρ (dd p.1) p.2/\(dd p.1).flat=true}
theorem zE.of_sort1(h0:xs≠[])(he:pU P f=true)(a9:∀args w,(callFunc cmp args).run P w=.ok (.enter cmp args) w)
  (O:h.at' id=some (.row (pre++xs.map dd++post))) (hO:SWO (ltOf cf)) (a1:xs.length<4611686018427387904)
  (ai:∀x∈xs,∀y∈xs,∀H,zE P cmp [dd x,dd y] H λr H'=>H'=H/\r=.int .i64 (cf x y))
  (a2:∀(α:Type)[Inhabited α](enc:α->Value),OneCell enc->∀(cf:α->α->Int),SWO (ltOf cf)->∀(g:Nat)(cb:Array Value)(t off cap:Nat)(d:Array α)(w:World),
   (∀args w,(callFunc g args).run P w=.ok (.enter g args) w)->CmpLays1 P g cb enc cf t off d.size w->Go.Sort.Holds enc w t off d->t<w.heap.size->d.size<4611686018427387904->
   Calls P f #[.slice (some ⟨t,off,none⟩) d.size cap,.func (.func g) #[] cb] w λe w'=>e=.returned (.tuple #[])/\∃u n Z,PermIn 0 d.size d u/\SortedIn (ltOf cf) 0 d.size u/\w'=sortWorld enc w t off n u Z):
  zE P f [.rs id 1 pre.length xs.length,.fn (.func cmp) [] []] h λr h'=>r=.tuple []/\∃ys:List β,ys.Perm xs/\ys.Pairwise (λa b=>¬cf b a<0)/\h'=h.set id (.row (pre++ys.map dd++post)):=by
 refine⟨he,λw0 G M ρ w va L Q a0 hr=> ?_⟩;simp only[wI]at hr;obtain⟨v,cg,b1,W,v2,ch,rfl,a5,rfl⟩:=hr;simp only[rel,wI]at W a5;obtain⟨_,b4,l,cap,o,hl,rfl,⟨b5,b6⟩,cc,ho⟩:=W;obtain⟨_,fa,fc,rfl,bb,bk⟩:=a5;have ak:fa= #[]:=sY (by simpa using bb);have au:fc= #[]:=sY (by simpa using bk);subst ak au;have b2:0<xs.length:=z7.2 h0;have ho:o=pre.length:=by
  rcases ho with hz|ho
  .omega
  .exact ho
 subst ho;have a6:va= #[.slice (some ⟨l.blk,pre.length,none⟩) xs.length cap,.func (.func cmp) #[] #[]]:=sY (by simpa using b1);subst a6;obtain⟨l',h1,D,hM,c,e,hw,ca,b7,K⟩:=Q.live id _ O;rw[hl]at h1;cases h1;have ag:l.blk<w.heap.size:=(yS.1 hw).1;have a8:∀i (s:i<xs.length),(pre++xs.map dd++post)[pre.length+i]? =some (dd xs[i]):=λi s=>by
  rw[yY,yT ow,uR,yi (by simpa using s),zh,zB s];rfl
 have F:∀i (s:i<xs.length),∃v,c[pre.length+i]? =some v/\rel M ρ (dd xs[i]) v/\(dd xs[i]).flat=true:=λi s=>by
  obtain⟨h1,v,X,h3⟩:=K _ _ (a8 i s);exact⟨v,X,h3,h1⟩
 let mk:_root_.Fin xs.length->U3 dd xs M ρ:=λi=>⟨(xs[i.1],(F i.1 i.2).choose),zI i.2,(F i.1 i.2).choose_spec.2⟩
 letI:Inhabited (U3 dd xs M ρ):=⟨mk ⟨0,b2⟩⟩
 let enc:U3 dd xs M ρ->Value:=λp=>p.1.2
 have S:OneCell enc:=λp=>Ya p.2.2.1 p.2.2.2
 let d:Array (U3 dd xs M ρ):=Array.ofFn mk
 have R:d.size=xs.length:=by simp[d]
 have ba:∀i (s:i<xs.length),d[i]! =mk ⟨i,s⟩:=λi s=>by rw[uF d i (by rw[R];exact s)];simp[d]
 have aj:d.toList.map (λp=>p.1.1)=xs:=by
  apply tR;intro i;rw[zh,qo];by_cases s:i<xs.length
  .rw[sM (by rw[R];exact s),zB s,qt]
   simp[d,mk]
  .rw[rQ ow,wx ow];rfl
 have a7:SWO (ltOf λp q:U3 dd xs M ρ=>cf p.1.1 q.1.1):=⟨λx=>hO.irrefl _,λx y z=>hO.trans _ _ _,λx y z=>hO.ntrans _ _ _⟩;have N:Go.Sort.Holds enc w l.blk pre.length d:=by
  intro j hj;rw[R]at hj;refine⟨?_,by simp[World.frozen?,hw]⟩;rw[ba _ hj];have W:=(F j hj).choose_spec.1;simp only[World.cell?,hw,sE,zf,yr];exact W
 have U:CmpLays1 P cmp #[] enc (λp q=>cf p.1.1 q.1.1) l.blk pre.length d.size w:=by
  intro m Z J b9 x y;have B:=W2 enc w l.blk pre.length m J Z;have T:Jz P (sortWorld enc w l.blk pre.length m J Z):=⟨λg Y=>by
   have X:=L.here Q.below Y;unfold Lib.TabIs World.var? at X⊢;rw[Y]at X⊢;simp only[rC]at X⊢;have C:=(L.1 g Y).1;rw[B g (λq=>D (q▸C)) (zl (w0.kept g C) Q.below.size)];exact X,λg Y=>by
   obtain⟨m,hm⟩:=L.max Q.below Y;have C:=(L.2 g Y).1;exact⟨m,(wi (w:=w) (B g (λq=>D (q▸C)) (zl (w0.kept g C) Q.below.size))).trans hm⟩⟩
  refine zE.stays (λH=>(ai x.1.1 x.2.1 y.1.1 y.2.1 H).mono λr H' hq=>hq.2) (λM ρ v W=>by simp only[rel]at W;exact W.1) (M:=M) (ρ:=ρ) (n:=h.next) (λb o v hb=> ?_) T a0 ?_
  .have b0:b≠l.blk:=λq=>by subst q;rw[hM o]at hb;cases hb
   rw[<-Q.imm b o v hb];exact wi (w:=w) (B b b0 (Q.lt hb))
  .show wI M ρ _ [_,_]
   simp only[wI];exact⟨_,_,rfl,x.2.2.1,_,_,rfl,y.2.2.1,rfl⟩
 have A:=a2 (U3 dd xs M ρ) enc S (λp q=>cf p.1.1 q.1.1) a7 cmp #[] l.blk pre.length cap d w a9 U N ag (by rw[R];exact a1);rw[R]at A;refine A.mono λe w' hq=> ?_;obtain⟨rfl,u,n,Z,k,E,rfl⟩:=hq;rw[<-R]at k;have a4:=PermIn.list k;have b8:u.size=xs.length:=by rw[k.1,R]
 have b3:(u.toList.map λp=>p.1.1).Perm xs:=by
  have q:=a4.map (λp=>p.1.1)
  rwa [aj]at q
 let I:U3 dd xs M ρ->zCs:=λp=>⟨(dd p.1.1,p.1.2),p.2.2.2⟩
 have a3:∀J:List (U3 dd xs M ρ),(J.map I).map (λq=>q.1.1)=(J.map λp=>p.1.1).map dd:=λJ=>by rw[wA,wA];rfl
 have bx:∀J:List (U3 dd xs M ρ),(J.map I).map (λq=>q.1.2)=J.map enc:=λJ=>by rw[wA];rfl
 have V:h.at' id=some (.row (pre++(d.toList.map I).map (λq=>q.1.1)++post)):=by rw[a3,aj];exact O
 have hS:=(Q.ahead n).putRow (α:=zCs) (enc:=λq=>q.1.2) (dd:=λq=>q.1.1) (λq=>q.2) V hl (ys:=u.toList.map I) (a4.map I).length_eq (λq hq=>by
  obtain⟨p,hp,rfl⟩:=zN.1 hq;exact p.2.2.1)
 have ad:=hS.grow Z;rw[Z0,gG,bx,a3,<-gG,Array.toArray_toList,<-Z0]at ad;refine⟨.tuple #[],M,ρ,.tuple [],_,rfl,MLe.refl _,RLe.refl _,ad,a0,by simp only[rel,wI];exact⟨#[],rfl,rfl⟩,rfl,u.toList.map (λp=>p.1.1),b3,?_,rfl⟩;rw[nH,uo];intro i j s hj bo;have bs:j<u.size:=by simpa using hj
 have:=E i j (yD _) bo ow;rw[uF u j bs,uF u i ow]at this;simpa [ltOf]using this
end
open Go.Proofs.Tryz
open Go.Proofs Go.Shelf Go.Sort
set_option maxRecDepth 100000
def Wk:QC tD where
 anti x y:=by unfold tD;(repeat' split)<;>omega
 trans x y z h1 h2:=by
  have e:∀a b:Int,tD a b<=0↔a<=b:=λa b=>by unfold tD;(repeat' split)<;>omega
  rw[e]at *;omega
def NR(x y:Int)(h:tD x y=0):x=y:=by unfold tD at h;(repeat' split at h)<;>omega
theorem V5:∀a b:List Trm,mS a b=Yc yu a b
 | [],[]=>rfl
 | [],_::_=>rfl
 |_::_,[]=>rfl
 |x::xs,y::ys=>by
  simp only[mS,Yc,Q0,V5 xs ys];by_cases h:yu x y=0<;>simp[h]
def mh(a b:List Trm):cK a b=Q0 (tD a.length b.length) (Yc yu a b):=by
 unfold cK Q0;simp only[orL,V5];split
 .split
  .rename_i q;exact q.symm
  .rfl
 .rfl
def Wj:QC cK:=by
 have:=(Wk.key (γ:=List Trm) (λa=>(a.length:Int))).lex jK.list;exact⟨λx y=>by rw[mh,mh];exact this.anti x y,λx y z=>by rw[mh,mh,mh];exact this.trans x y z⟩
def Rr(x y:List Trm)(h:cK x y=0):x=y:=by
 rw[mh,Q0]at h;split at h
 .exact Tc bw _ _ h
 .rename_i q;exact absurd h q
def U6(l:List (List Trm)):(qe (l.map mkA)).flatten=l.map λa=>(mkA a).d:=by rw[oY,wA];rfl
variable{id:Nat}{h:Heap}{f:FuncId}
def zAo{l:List (List Trm)}(h0:l≠[])(t:l.length<=1048576)(a:∀i∈l,i.length<=1048576)(b:g.at' id=some (.row (qe (l.map mkA)).flatten)):
  zE prog 332 [.rs id 1 0 l.length,.fn (.func 333) [] []] g λr h'=>r=.tuple []/\h'=g.set id (.row (qe ((srt cK l).map mkA)).flatten):=by
 have:=zE.of_sort1 (P:=prog) (f:=332) (cmp:=333) (dd:=λi=>(mkA i).d) (xs:=l) (id:=id) (pre:=[]) (post:=[]) (h:=g) (cf:=cK) h0 kr (enters_of func333 kr rfl) (by simpa [U6]using b) Wj.swo ow
  (λx q y s H=>Rv (yg.mk .no) (yg.mk .no) (a x q) (a y s) H) (λα _ enc h1 cf k g cb c off cap d w o n j m e=>Any.slices_SortFunc Tryz.sortAlt enc h1 cf k g cb c off cap d w o n j m e)
 refine this.mono λr h' ⟨e1,ys,p,e,e2⟩=>⟨e1,?_⟩;rw[e2,L9 Wj Rr p e,U6];simp
open Go.Proofs
def mM(ts:List Trm):List Trm:=cpt yu (srt yu ts)
def fP(out:List (List Trm))(a:List Trm):List (List Trm):=if(out.any λb=>bi a b)=true then out else out++ [a]
def gV(l:List (List Trm)):Nat->List (List Trm)
 |0=>[]
 |n+1=>match l[n]? with
  |none=>gV l n
  |some a=>fP (gV l n) a
def p8(l:List (List Trm)):List (List Trm):=srt cK (l.map mM)
def wv(l:List (List Trm)):List (List Trm):=gV (p8 l) (p8 l).length
def Lb(h:ts≠[]):mM ts≠[]:=λe=>by
 have h1:0<(srt yu ts).length:=by rw[(sX ts).length_eq];exact z7.2 h
 have:=TO (c:=yu) h1 _ (zD _) h1;rw[show tF yu (srt yu ts) (srt yu ts).length=mM ts from rfl,e]at this
 grind
def PA(a:List Trm):(mM a).length<=a.length:=by
 exact(by rw[<-(sX (c:=yu) a).length_eq];exact jk _)
theorem LX(h:ts≠[])(a:ts.length<=4096):(mkA ts).Ok:=⟨yg.mk .no,h,a⟩
theorem fQ{l:List (List Trm)} :∀n,∀x∈gV l n,x∈l
 |0,x,h=>by cases h
 |n+1,x,h=>by
  rw[gV]at h;split at h
  .exact fQ n x h
  .rename_i a e
   unfold fP at h;split at h
   .exact fQ n x h
   .rcases yv.1 h with h|h
    .exact fQ n x h
    .grind
theorem WX{l:List (List Trm)} :∀n,(gV l n).length<=n
 |0=>zD _
 |n+1=>by
  have a:=WX (l:=l) n
  grind [gV,fP]
def Q6{l:List (List Trm)}{x:List Trm}(h:x∈wv l):∃y∈l,x=mM y:=by
 have:=bV.1 (fQ _ x h)
 grind
theorem Xq{l:List Alt}(hd:yg 1 (qe l) d)(h0:l≠[])(hl:l.length<=1048576)(J:∀a∈l,a.Ok)(g:Heap):
  zE prog 252 [d] g λr h'=>h'=g/\Fin 1 (qe ((wv (l.map Alt.ts)).map mkA)) r:=by
 refine xU kr λb4=>xS ?_;have b3:=tA hd;refine xP λQ hQ=> ?_;have b6:=Own.start (Ext.refl g) 1;refine zo zME ?_;simp only[f252,zA]
 repeat' first|simp only[go_sem, *]|apply bc<;>intro w
 refine zZ (λi fr h=>∃s,fr 10=d/\fr 11=.int .i64 (l.length:Int)/\fr 12=.int .i64 (i:Int)/\fr 3=s/\YK g h 1 (qe (((l.take i).map λa=>mM a.ts).map mkA)) s) l.length ow ?_ ?_ ?_
 .have X:=YK.start (Ext.refl g) 1
  simp only[go_sem,zQ,zT,zG];exact⟨_,rfl,X⟩
 .rintro i fr h q e1 ew ⟨s,ad,ag,ai,f3,A⟩
  have a1:=oc hd q;obtain⟨o1,o2,o3⟩:=J _ (zI q);have b1:(l.take (i+1)).map (λa=>mM a.ts)=(l.take i).map (λa=>mM a.ts)++ [mM l[i].ts]:=by rw[zM q,qf];rfl
  have S:((l.take i).map λa=>mM a.ts).length=i:=by rw[zH,yK];omega
  rw[b1];generalize l[i]=a at *
  generalize(l.take i).map (λa=>mM a.ts)=pre at *
  obtain⟨k1,k2,k3⟩:=zp o1;have a6:=λh=>IK o1 o2 ow h;have B:=λ(H:Heap) (hr:H.at' h.next=some (.row (wp a.ts).flatten))=>zAr (id:=h.next) o2 ow hr;have ba:srt yu a.ts≠[]:=λe=>o2 (yN.1 (by rw[<-(sX (c:=yu) a.ts).length_eq,e];rfl));have bb:(srt yu a.ts).length=a.ts.length:=(sX a.ts).length_eq;have O:=λ(H:Heap) (hr:H.at' h.next=some (.row (wp (srt yu a.ts)).flatten))=>P6 (id:=h.next) ba ow hr;rw[bb]at O;have b9:D.sl 2 (wp (cpt yu (srt yu a.ts))) .no=(mkA (mM a.ts)).d:=rfl
  repeat' first|simp only[go_sem, *]|apply bc<;>intro w|(refine zE.mono (a6 _) ?_;rintro r h ⟨rfl,rfl⟩)
  refine(B _ (z5 _ _ _)).mono ?_;rintro r j ⟨rfl,rfl⟩
  repeat' first|simp only[go_sem, *]|apply bc<;>intro w
  refine(O _ (zU _ _ _)).mono ?_;rintro r j ⟨rfl,rfl⟩;have hE:Ext h (((h.new h.next (.row (wp a.ts).flatten)).set h.next (.row (wp (srt yu a.ts)).flatten)).del h.next):=(((Ext.refl h).new (zD _) _).set (zD _) _).del (zD _);generalize((h.new h.next (.row (wp a.ts).flatten)).set h.next (.row (wp (srt yu a.ts)).flatten)).del h.next=H at *
  have bx:=A.ext hE;obtain⟨d',G,a4,bs,b2⟩:=bx.app (P:=prog) (ys:=qe [mkA (mM a.ts)]) (tk:=.full) uS pw uZ ow (λcs=>Wu underlying195) (sv _) (sv _) (by simp[qe]) (by rw[qB,zH,S,tS];unfold lim;simp[qe];omega) (by rw[qB,zH,S];unfold lim;simp[qe];omega);have U:=bM (mkA (mM a.ts)).d H.next H rfl rfl rfl;have C:qe [mkA (mM a.ts)]= [[(mkA (mM a.ts)).d]]:=rfl;rw[C]at a4 b2;have m:YK g G 1 (qe ((pre++ [mM a.ts]).map mkA)) d':=by
   rw[qf]
   have:qe (pre.map mkA++List.map mkA [mM a.ts])=qe (pre.map mkA)++qe [mkA (mM a.ts)]:=by simp[qe]
   rw[this];exact bs
  repeat' first|simp only[go_sem, *]|apply bc<;>intro w
  exact⟨_,rfl,m⟩
 .rintro fr h e1 ⟨s,ad,ag,ai,f3,A⟩
  rw[zt]at A;have hS:srt cK (l.map λa=>mM a.ts)=p8 (l.map Alt.ts):=by rw[p8,wA];rfl
  have a3:(p8 (l.map Alt.ts)).length=l.length:=by rw[<-hS,(sX _).length_eq,zH]
  have a8:l.map (λa=>mM a.ts)≠[]:=by simp[h0]
  have F:(l.map λa=>mM a.ts).length=l.length:=zH ..;have v:∀M∈p8 (l.map Alt.ts),M≠[]/\M.length<=4096:=λM h=>by
   rw[<-hS]at h;obtain⟨a,ha,rfl⟩:=zN.1 (bV.1 h);exact⟨Lb (J a ha).ne,zY (PA _) (J a ha).len⟩
  have a7:∀M∈l.map (λa=>mM a.ts),M.length<=1048576:=λM h=>by
   have:=(v M (by rw[<-hS];exact bV.2 h)).2;omega
  obtain⟨Z,w⟩:=A;rcases w with⟨_,e⟩ | ⟨id,rfl,W,hid,R,_⟩
  .exact absurd (by simpa [qe]using e) h0
  have C:(qe ((l.map λa=>mM a.ts).map mkA)).length=l.length:=by rw[qB,zH,F]
  rw[C]at f3;have B:=zAo a8 ow a7 W;have T:wv (l.map Alt.ts)=gV (p8 (l.map Alt.ts)) (p8 (l.map Alt.ts)).length:=rfl;rw[T]at hQ;rw[F,hS]at B;generalize p8 (l.map Alt.ts)=L at *
  have E0:Ext g (h.set id (.row (qe (L.map mkA)).flatten)):=Z.set hid _;have a2:∀r h',Ext g h'->below g.next (qC r)->Fin 1 (qe ((gV L L.length).map mkA)) (qC r)->Q r h':=λr h' q1 q2 q3=>hQ r h' ⟨q1,q2,q3⟩
  repeat' first|simp only[go_sem, *]|apply bc<;>intro w|(refine zE.mono B ?_;rintro r h ⟨rfl,rfl⟩)
  have r0:(h.set id (.row (qe (L.map mkA)).flatten)).at' id=some (.row (qe (L.map mkA)).flatten):=zU _ _ _;have E:id<(h.set id (.row (qe (L.map mkA)).flatten)).next:=R;generalize h.set id (.row (qe (L.map mkA)).flatten)=H at *
  have cb:=λ(h:Heap)=>oC (P:=prog) (t:=44) (sz:=1) (id:=id) (off:=0) (len:=l.length) (h:=h) underlying44
  repeat' first|simp only[go_sem, *]|apply bc<;>intro w
  refine zZ (λi fr h=>∃o,fr 28=.rs id 1 0 l.length/\fr 29=.int .i64 (l.length:Int)/\fr 30=.int .i64 (i:Int)/\fr 7=o/\Own H h 1 (qe ((gV L i).map mkA)) o) l.length ow ?_ ?_ ?_
  .have X:=Own.start (Ext.refl H) 1
   simp only[go_sem,zQ,zT,zG];exact⟨_,rfl,X⟩
  .rintro i fr j q ec ew ⟨o,aj,ak,a0,f7,A⟩
   have u:i<L.length:=ow;have a1:=qG (P:=prog) (sz:=1) (id:=id) uS uZ (k:=.i64) q;have b0:j.at' id=some (.row (qe (L.map mkA)).flatten):=by rw[A.1.2 _ E];exact r0
   have b7:(qe (L.map mkA)).flatten[i*1]? =some (mkA L[i]).d:=by rw[U6,wF,zh,zB u];rfl
   obtain⟨m1,m2⟩:=v L[i] (zI u);have a9:gV L (i+1)=fP (gV L i) L[i]:=by rw[gV,zB u]
   have Y:∀x∈gV L i,x≠[]/\x.length<=4096:=λx Z=>v x (fQ i x Z);have F:=WX (l:=L) i;rw[a9];generalize L[i]=a at *
   generalize gV L i=out at *
   have ca:j.next<(j.new j.next (.row [(mkA a).d])).next:=by rw[za];omega
   have V:(j.new j.next (.row [(mkA a).d])).at' j.next=some (.row [(mkA a).d]):=z5 _ _ _;have b5:yR prog 195 (.ptr j.next 0) (mkA a).d (j.new j.next (.row [.nilsl]))=some (j.new j.next (.row [(mkA a).d])):=by
    rw[yM (z5 _ _ _) uZ jS rfl rfl,bK];rfl
   have I:=A.ext ((Ext.refl j).new (zD _) (.row [(mkA a).d]));have n:=fC (l:=out.map mkA) (d:=o) I.isSl (by rw[zH];omega) (f:=334) (cap:=[.ptr j.next 0]) (p:=λb=>bi a b.ts) (g:=j.new j.next (.row [(mkA a).d])) (λs X=>by
    obtain⟨y,hy,rfl⟩:=zN.1 X;obtain⟨n1,n2⟩:=Y y hy;exact⟨(LX n1 n2).sl,zEA (LX m1 m2) (LX n1 n2) V⟩)
   have N:(out.map mkA).any (λb=>bi a b.ts)=out.any λb=>bi a b:=by rw[YI];rfl
   rw[N]at n;have a5:(mkA a).d.cells= [(mkA a).d]/\(mkA a).d.notTuple=true:=⟨rfl,rfl⟩;obtain⟨k1,k2⟩:=a5;cases hb:(out.any λb=>bi a b)with
   |true=>
    have K:fP out a=out:=ip hb;rw[K];rw[hb]at n;generalize j.new j.next (.row [(mkA a).d])=h3 at *
    repeat' first|simp only[go_sem, *]|apply bc<;>intro w|refine zE.use n ?_
    exact⟨_,rfl,I⟩
   |false=>
    have K:fP out a=out++ [a]:=iq (by rw[hb];exact zV);rw[K];rw[hb]at n;have U:=λnid h=>bM (mkA a).d nid h rfl rfl rfl;have b8:jT prog 195 (.ptr j.next 0) (j.new j.next (.row [(mkA a).d]))=some (mkA a).d:=by
     simp only[go_sem,V]
    generalize j.new j.next (.row [(mkA a).d])=h3 at *
    repeat' first|simp only[go_sem, *]|apply bc<;>intro w|refine zE.use n ?_
    refine I.appH (ys:=qe [mkA a]) uS pw uZ ow (sv _) (by simp[qe]) (by rw[qB,zH,tS];unfold lim;simp[qe];omega) (by rw[qB,zH];unfold lim;simp[qe];omega) λd' h' bk=> ?_;have bo:Own H h' 1 (qe ((out++ [a]).map mkA)) d':=by
     rw[qf]
     have:qe (out.map mkA++List.map mkA [a])=qe (out.map mkA)++qe [mkA a]:=by simp[qe]
     rw[this];exact bk
    repeat' first|simp only[go_sem, *]|apply bc<;>intro w
    exact⟨_,rfl,bo⟩
  .rintro fr j ec ⟨o,aj,ak,a0,f7,A⟩
   have m:=A.2.1.fin (λx Z=>by
    obtain⟨y,hy,rfl⟩:=zN.1 Z;obtain⟨z,_,rfl⟩:=zN.1 hy;exact aU z)
   have hq:=a2 o j (E0.trans A.1) (yw (yD _) _ m.1) (by rw[a3];exact m.2);exact au
noncomputable def zA0:Cfg:=⟨λt=>List.contains (α:=Nat) [22] t,λi=>(UH (α:=List (Nat×Fl)) [] i).getD []⟩
def zP1(t:Tmp):zA0.mu t=List.contains (α:=Nat) [22] t:=(rfl)
def zQS:PC prog zA0 f385=true:=kr
noncomputable def zAz:Cfg:=⟨λt=>List.contains (α:=Nat) [33] t,λi=>(UH (α:=List (Nat×Fl)) [] i).getD []⟩
def Ap(t:Tmp):zAz.mu t=List.contains (α:=Nat) [33] t:=(rfl)
def zQR:PC prog zAz f338=true:=kr
def zAS(h0:0<n)(k:n<=1048576)(h:Heap):
  zE prog 385 [.nilsl,.int .i64 n] h λr h'=>∃xs:List D,xs.length=n*2/\r=.rs h.next 2 0 0/\h'=h.new h.next (.row xs):=by
 have e1:decide ((n:Int)<0)=false:=zO ow;have e2:IntKind.i64.wrap (0-0)=0:=rfl;have e3:IntKind.i64.wrap ((n:Int)-0)=n:=by rw[qJ ow ow];omega
 have c:decide ((n:Int)>0)=true:=zR ow;have d:ww prog 195 .nilsl none (some (.int .i64 0)) none h=some .nilsl:=by
  simp[ww,bj,dC,uD,ui,rT,V8,Ri]
 have e:me prog true h.next 195 3 .nilsl (.int .i64 n) h=some (.rs h.next 2 0 n,h.new h.next (.row (ma n [.str [],.str []]))):=by
  have j:n*32<=lim:=jL;have a:n<=lim:=jL;simp only[me,underlying3,uD,sj,ui,kx,wE,D.notTuple,D.cells];rw[ip (by simp[j,a,h0]),pN underlying197]
 have f:ww prog 195 (.rs h.next 2 0 n) none (some (.int .i64 0)) none (h.new h.next (.row (ma n [.str [],.str []])))=some (.rs h.next 2 0 0):=
  oN (n:=0) bj uD ui ow
 have i:∀h:Heap,o5 prog 195 .nilsl h=some (.int .i64 0):=λh=>wL (sz:=2) yg.nil underlying195;refine xO mix func385 zQS rfl rfl ?_;simp only[f385,zA];simp only[go_sem,zP1,e1,e2,e3,c,EZ underlying195,i,d,e,f,Option.map_none,qt,qO,Int.natCast_zero,zG];refine⟨ma n [.str [],.str []],?_,rfl⟩
 have:∀m,(ma m [D.str [],D.str []]).length=m*2:=λm=>by
  induction m with
  |zero=>rfl
  |succ m b=>
   change (List.replicate m [D.str [],D.str []]).flatten.length=_ at b;change (List.replicate (m+1) [D.str [],D.str []]).flatten.length=_;rw[tY,yH,zS,b];simp;omega
 exact this n
def zDk(h0 h:Heap)(l:List Trm)(d:D):Prop:=Ext h0 h/\∃id xs,d=.rs id 2 0 l.length/\h.at' id=some (.row xs)/\h0.next<=id/\id<h.next/\l.length*2<=xs.length/\xs.take (l.length*2)=(wp l).flatten
def Gt(l:List Trm):(wp l).flatten.length=l.length*2:=by rw[uu (pv l),wk]
def Ea{l c:List Trm}{d g:D}(v:zDk h0 h l d)(n:yg 2 (wp c) g)(E:l.length<=1048576)(z:c.length<=1048576):
  ∃r h',qg prog true h.next 195 d g (t6 d g h)=some (r,h')/\zDk h0 h' (l++c) r:=by
 obtain⟨k,id,xs,rfl,hid,w,B,A,q⟩:=v;have u:(l.length+c.length)*32<=lim:=jL;have m:l.length+c.length<=lim:=jL;have C:∀a:Heap,Us 2 g a=some (wp c).flatten:=λa=>by
  rcases n with⟨rfl,p⟩ | ⟨tk,rfl⟩
  .have:c= []:=ue.1 p
   subst this;rfl
  .simp only[Us,qK]
 have f:(xs.take (l.length*2)).length=l.length*2:=by rw[yK];omega
 have b:=Gt c;have key:∀a:Heap,a.at' id=some (.row (xs.take (l.length*2)))->qg prog true h.next 195 (.rs id 2 0 l.length) g a=some (.rs h.next 2 0 (l.length+c.length),(a.del id).new h.next (.row (xs.take (l.length*2)++(wp c).flatten))):=λa e=>by
  simp only[qg,uD,XV,ui,qK,C,b,u0 _ (show 0<2 by omega),tt,kx,tH];rw[ip (by simp[u,m]),e];simp only[];rw[ip (by rw[f])]
 obtain⟨a,e1,e2,e3,t⟩:∃a,t6 (.rs id 2 0 l.length) g h=a/\a.next=h.next/\(∀j,j≠id->a.at' j=h.at' j)/\a.at' id=some (.row (xs.take (l.length*2))):=by
  by_cases s:l.length*2<xs.length
  .refine⟨h.set id (.row (xs.take (l.length*2))),?_,rfl,λj y=>by simp[Heap.set,y],zU _ _ _⟩
   rcases n with⟨rfl,p⟩ | ⟨tk,rfl⟩ <;>simp[t6,hid,s]
  .have q:xs.take (l.length*2)=xs:=yO ow
   refine⟨h,?_,rfl,λ_ _=>rfl,by rw[q];exact hid⟩;rcases n with⟨rfl,p⟩ | ⟨tk,rfl⟩ <;>simp[t6,hid,s]
 have o:Ext h0 a:=⟨by rw[e2];exact k.1,λi x=>by rw[e3 i ow];exact k.2 i x⟩;rw[e1,key a t];refine⟨_,_,rfl,(o.del w).new k.1 _,h.next,_,by rw[zS],z5 _ _ _,k.1,?_,?_,?_⟩
 .have:(a.del id).next=a.next:=rfl
  simp only[Heap.new,this,e2];omega
 .rw[zS,zS,f,b];omega
 .rw[q,Ej,yO (by rw[zS,zS,Gt,b];omega)]
theorem IL{a b:Alt}(Y:a.Ok)(Z:b.Ok)(g:Heap):
  zE prog 338 [.sl 1 [[a.d],[b.d]] .full] g λr h'=>h'=g/\r=(mkA (a.ts++b.ts)).d:=by
 obtain⟨P,Q,a3⟩:=Y;obtain⟨R,b2,b3⟩:=Z;have aj:0<a.ts.length:=z7.2 Q;refine xU kr λai=> ?_
 suffices hh:zE prog 338 [.sl 1 [[a.d],[b.d]] .full] g λr h'=>zDk g h' (a.ts++b.ts) r by
  refine zE.freezeD (hh.mono ?_);rintro r h' ⟨X,id,xs,rfl,hid,hg,q,ad,ht⟩;refine⟨id,xs,hid,X.del hg,?_⟩;rw[X8 (xs:=wp (a.ts++b.ts)) (rest:=xs.drop ((a.ts++b.ts).length*2)) (pv _) (wk _) (by rw[<-ht,yk])];exact⟨Fu _ _,rfl⟩
 obtain⟨M,o,p,u⟩:∃M:Nat->Nat,M 0=0/\M 1=a.ts.length/\M 2=a.ts.length+b.ts.length:=⟨λi=>if i=0 then 0 else if i=1 then a.ts.length else a.ts.length+b.ts.length,rfl,rfl,rfl⟩
 obtain⟨L,c,j,m⟩:∃L:Nat->List Trm,L 0= []/\L 1=a.ts/\L 2=a.ts++b.ts:=⟨λi=>if i=0 then []else if i=1 then a.ts else a.ts++b.ts,rfl,rfl,rfl⟩
 obtain⟨k,e,f⟩:∃k:Nat->Alt,k 0=a/\k 1=b:=⟨λi=>if i=0 then a else b,rfl,rfl⟩
 have ag:∀h:Heap,o5 prog 44 (.sl 1 [[a.d],[b.d]] .full) h=some (.int .i64 2):=λh=>wL (yg.mk .full) underlying44;have A:∀i:Nat,i<2->yj prog 44 (.sl 1 [[a.d],[b.d]] .full) (.int .i64 (i:Int))=some (.iptr [(k i).d] 0)/\yg 2 (wp (k i).ts) (k i).d/\M (i+1)=M i+(k i).ts.length/\L (i+1)=L i++(k i).ts/\(L i).length<=8192/\(k i).ts.length<=8192/\M i<=8192:=λi hi=>by
  rcases i with _|_|i
  .refine⟨yW (yg.mk .full) uS uZ (by rw[e];rfl),by rw[e];exact P,by rw[o,e,p];omega,by rw[c,j,e];rfl,by rw[c];simp,by rw[e];omega,ow⟩
  .refine⟨yW (yg.mk .full) uS uZ (by rw[f];rfl),by rw[f];exact R,by rw[p,f,u],by rw[j,m,f],by rw[j];omega,by rw[f];omega,by show M 1<=8192;omega⟩
  .omega
 clear e f;refine xO mix func338 zQR rfl rfl ?_;simp only[f338,zA]
 repeat' first|simp only[go_sem,Ap, *]|apply bc<;>intro w
 refine zZ (λi fr h=>fr 0=.sl 1 [[a.d],[b.d]] .full/\fr 9=.sl 1 [[a.d],[b.d]] .full/\fr 10=.int .i64 2/\fr 11=.int .i64 (i:Int)/\fr 3=.int .i64 ((M i:Nat):Int)/\h=g) 2 ow ?_ ?_ ?_
 .simp only[go_sem,zQ,zT,zG,Ap,o]
 .rintro i fr h q e1 S ⟨T,V,E,s,U,rfl⟩
  obtain⟨x1,B,C,D,x5,x6,x7⟩:=A i q;have N:=ua B;have hw:IntKind.i64.wrap (((M i:Nat):Int)+(((k i).ts.length:Nat):Int))=((M (i+1):Nat):Int):=by rw[C,qJ ow ow];omega
  have O:decide (((M (i+1):Nat):Int)<0)=false:=zO ow;have e2:decide ((i:Int)<2)=true:=e1;clear C D A o p u
  repeat' first|simp only[go_sem,Ap, *]|apply bc<;>intro w
 .rintro fr h e1 ⟨T,V,E,s,U,rfl⟩
  have e2:decide ((((2:Nat):Int))<2)=false:=rfl;have z:=zAS (n:=M 2) ow ow h;have J:fr 11=.int .i64 2:=s;clear e1 s o p u
  repeat' first|simp only[go_sem,Ap, *]|apply bc<;>intro w
  refine z.mono ?_;rintro r W ⟨xs,ak,rfl,rfl⟩;have y:zDk h (h.new h.next (.row xs)) (L 0) (.rs h.next 2 0 0):=⟨(Ext.refl h).new (zD _) _,h.next,xs,by rw[c];rfl,z5 _ _ _,zD _,by rw[za];omega,by rw[c];simp,by rw[c];rfl⟩;generalize h.new h.next (.row xs)=W at *
  clear z
  repeat' first|simp only[go_sem,Ap, *]|apply bc<;>intro w
  refine zZ (λi fr I=>fr 25=.sl 1 [[a.d],[b.d]] .full/\fr 26=.int .i64 2/\fr 27=.int .i64 (i:Int)/\zDk h I (L i) (fr 6)) 2 ow ?_ ?_ ?_
  .simp only[go_sem,zQ,zT,zG,Ap]
   exact y
  .rintro i l I q e1 S ⟨F,G,t,v⟩
   obtain⟨d,H⟩:∃x,l 6=x:=⟨_,rfl⟩;rw[H]at v;obtain⟨x1,B,C,D,x5,x6,x7⟩:=A i q;obtain⟨d',h5,k1,k2⟩:=Ea v B ow ow;rw[<-D]at k2;have e2:decide ((i:Int)<2)=true:=e1;obtain⟨q1,q2,q3⟩:=zp B;clear C D A c j m v y
   repeat' first|simp only[go_sem,Ap, *]|apply bc<;>intro w
  .rintro l I e1 ⟨F,G,t,v⟩
   have e2:decide ((((2:Nat):Int))<2)=false:=rfl;have K:l 27=.int .i64 2:=t;rw[m]at v;obtain⟨d,H⟩:∃x,l 6=x:=⟨_,rfl⟩;rw[H]at v;clear e1 t A c j m
   repeat' first|simp only[go_sem,Ap, *]|apply bc<;>intro w
def Ye(a b:List Alt)(k:Nat):List Trm:=(a.getD (k/b.length) (mkA [])).ts++(b.getD (k%b.length) (mkA [])).ts
def aW(a b:List Alt):List (List Trm):=(List.range (a.length*b.length)).map (Ye a b)
def Hy{a b:List Alt}(d:i<a.length)(c:j<b.length):Ye a b (i*b.length+j)=a[i].ts++b[j].ts:=by
 unfold Ye;rw[show(i*b.length+j)/b.length=i by rw[gp,Nat.mul_add_div ow,Nat.div_eq_of_lt c];rfl,show(i*b.length+j)%b.length=j by rw[gp,Nat.mul_add_mod,Nat.mod_eq_of_lt c]];simp[d,c]
theorem UP(a b:List Alt):(aW a b).length=a.length*b.length:=by simp[aW]
def zAb{a b:List Alt}(d:yg 1 (qe a) x)(c:yg 1 (qe b) y)(g:Heap):zE prog 254 [x,y] g λr h'=>h'=g/\r=.fn (.func 337) [] [.iptr [x] 0,.iptr [y] 0]:=by
 refine zo zMG ?_;simp only[f254,zA];rcases d with⟨rfl,_⟩ | ⟨_,rfl⟩
 .rcases c with⟨rfl,_⟩ | ⟨_,rfl⟩
  .exact au
  .exact au
 .rcases c with⟨rfl,_⟩ | ⟨_,rfl⟩
  .exact au
  .exact au
def EE{a b:List Alt}(C:yg 1 (qe a) x)(D:yg 1 (qe b) y)(N:∀q∈a,q.Ok)(O:∀q∈b,q.Ok)(a0:a.length<=4096)(a2:b.length<=4096){Y:Nat->(Nat->Prop)->Heap->Prop}(E:Yld prog id (a.length*b.length) (λk=>[(mkA (Ye a b k)).d]) Y λ_ _=>False){w:Heap}(hY:Y 0 S w):
  zE prog 337 [.yld id,.iptr [x] 0,.iptr [y] 0] w λ_ h'=>∃S',But S w h'/\Y (a.length*b.length) S' h':=by
 have aj:=tA C;have ak:=tA D;obtain⟨x1,x2,_⟩:=zp C;obtain⟨y1,y2,_⟩:=zp D;refine zo zMj ?_;simp only[f337,zA]
 repeat' first|simp only[go_sem, *]|apply bc<;>intro Q
 refine zZ (λi fr h'=>fr 0=.yld id/\fr 2=.iptr [y] 0/\fr 8=x/\fr 9=.int .i64 (a.length:Int)/\fr 10=.int .i64 (i:Int)/\∃S',(∀j,S' j->S j\/w.next<=j)/\But S w h'/\Y (i*b.length) S' h') a.length ow ?_ ?_ ?_
 .have H:∃S',(∀j,S' j->S j\/w.next<=j)/\But S w w/\Y (0*b.length) S' w:=⟨S,λj B=>.inl B,But.refl S w,by rw[sr];exact hY⟩
  simp only[go_sem,zQ,zT,zG];exact H
 .rintro i fr h1 m e1 ew ⟨I,J,K,L,z,M⟩
  have a1:=oc C m;have u:=N _ (zI m);have A:=λj (B:j<b.length)=>Hy m B;generalize a[i]=p at *
  obtain⟨R,p2,_⟩:=zp u.sl
  repeat' first|simp only[go_sem, *]|apply bc<;>intro Q
  refine ql (λj fr h'=>fr 0=.yld id/\fr 2=.iptr [y] 0/\fr 8=x/\fr 9=.int .i64 (a.length:Int)/\fr 10=.int .i64 (i:Int)/\fr 5=p.d/\fr 14=y/\fr 15=.int .i64 (b.length:Int)/\fr 16=.int .i64 (j:Int)/\∃S',(∀j,S' j->S j\/w.next<=j)/\But S w h'/\Y (i*b.length+j) S' h') b.length ?_ ?_
  .simp only[go_sem,zQ,zT,zG]
   exact⟨I,J,K,L,z,M⟩
  clear M;rintro j W l B ⟨g0,g2,g8,g9,X,g5,Z,ad,ag,S',f,c,e⟩;by_cases g:j<b.length
  .have e2:decide ((j:Int)<(b.length:Int))=true:=zR ow
   have V:IntKind.i64.wrap ((j:Int)+1)=((j+1:Nat):Int):=qR jL;have b1:=oc D g;have v:=O _ (zI g);have o:=A j g;have hk:i*b.length+j<a.length*b.length:=by
    have:i*b.length+b.length<=a.length*b.length:=by rw[<-qp];exact yt _ m
    omega
   have s:=E.go (i*b.length+j) S' l hk e;simp only[o]at s;generalize b[j]=q at *
   obtain⟨T,q2,_⟩:=zp v.sl;have F:=IL u v l;have ai:∀nid:Nat,yA prog false nid 44 2 [(0,p.d),(1,q.d)] l=some (.sl 1 [[p.d],[q.d]] .full,l):=λnid=>by
    have:=VB (P:=prog) (nid:=nid) (h:=l) (x:=p.d) (y:=q.d) uS dF uZ rfl rfl ow ow p2 (by rw[R];rfl) q2 (by rw[T];rfl);rw[R,T]at this;exact this
   have a3:(mkA (p.ts++q.ts)).d.notTuple=true:=rfl;clear u v A o E C D N O
   repeat' first|simp only[go_sem, *]|apply bc<;>intro Q|(refine zE.mono F ?_;rintro r h ⟨hq,rfl⟩)
   subst hq;refine s.mono ?_;rintro r h3 ⟨U,k1,k2,k3⟩;rcases k3 with⟨rfl,k3⟩ | ⟨rfl,k3⟩
   .have n:∃S',(∀j,S' j->S j\/w.next<=j)/\But S w h3/\Y (i*b.length+(j+1)) S' h3:=⟨U,λi' G=>by
     rcases k1 i' G with q|q
     .exact f _ q
     .exact .inr (by have:=c.1;omega),c.trans k2 f,k3⟩
    clear f c e k1 k2 k3 s;exact au
   .exact k3.elim
  .have e2:decide ((j:Int)<(b.length:Int))=false:=zO ow
   have t:j=b.length:=ow;have n:∃S',(∀j,S' j->S j\/w.next<=j)/\But S w l/\Y ((i+1)*b.length) S' l:=⟨S',f,c,by rw[qp,<-t];rw[t]at e⊢;exact e⟩;clear f c e E t;exact au
 .rintro fr l e1 ⟨I,J,K,L,z,S',f,c,e⟩
  have n:∃S',But S w l/\Y (a.length*b.length) S' l:=⟨S',c,e⟩;clear f c e E;exact au
def Mz(l:List (List Trm)):∀c∈qe (l.map mkA),wl c:=λc a=>by
 obtain⟨y,b,rfl⟩:=zN.1 a;obtain⟨z,_,rfl⟩:=zN.1 b;exact aU z
theorem Rw{a b:List Alt}(hx:yg 1 (qe a) x)(hy:yg 1 (qe b) y)(ha:∀q∈a,q.Ok)(hb:∀q∈b,q.Ok)(O:a.length<=256)(R:b.length<=256)(g:Heap):
  zE prog 336 [.nilsl,.fn (.func 337) [] [.iptr [x] 0,.iptr [y] 0]] g λr h'=>h'=g/\Fin 1 (qe ((aW a b).map mkA)) r:=by
 refine xU kr λad=>xS ?_;refine xP λQ hQ=> ?_;have I:(aW a b).length=a.length*b.length:=UP a b;have hm:a.length*b.length<=65536:=zY (kG O R) ow;obtain⟨n,o⟩:∃n,qe ((aW a b).map mkA)=n:=⟨_,rfl⟩;have X:n.length=a.length*b.length:=by rw[<-o,qB,zH,I]
 have W:∀k,k<a.length*b.length->n[k]? =some [(mkA (Ye a b k)).d]:=λk N=>by
  rw[<-o];simp[qe,aW,N]
 have V:∀c∈n,wl c:=by rw[<-o];exact Mz _
 rw[o]at hQ;refine zo zMi ?_;simp only[f336,zA];simp only[go_sem, *];simp only[za];generalize H:LRec.mk _ _ _ _ _ _ _=L;have yl:Yld prog (g.next+1) (a.length*b.length) (λk=>[(mkA (Ye a b k)).d]) (zAD g.next 1 L n) (λ_ _=>False):=by
  refine⟨λk S h y=>y.here,λk S h h' y hn N=>y.loc hn N,λS h hz=>hz.elim,λS h h' hz=>hz.elim,λi S h3 hi Z=> ?_⟩;have hc:=W i hi;generalize U:(mkA (Ye a b i)).d=m at *
  have T:m.cells= [m]/\m.notTuple=true/\m.flat=true:=by rw[<-U];exact⟨rfl,rfl,rfl⟩
  obtain⟨m1,m2,m3⟩:=T;have v:=λnid h=>bM m nid h m1 m2 m3;obtain⟨g1,t,d,G,u,s⟩:=Z;subst H;refine uC.round (g:=Be) mix t rfl kr kr kr ?_;simp only[go_sem];refine⟨t,?_⟩;generalize hB:LRec.mk .busy _ _ _ _ _ _=B;generalize f:Heap.set h3 (g.next+1) (.loop B)=h5;have C:h5.at' g.next=some (.row [d]):=by rw[<-f,zW ow];exact G
  have a3:h5.at' (g.next+1)=some (.loop B):=by rw[<-f];simp[Heap.set]
  have a4:h5.next=h3.next:=by rw[<-f,yc]
  have D:rY h5 1 (n.take i) d:=u.loc ow λj l=>by
   have:=u.tok l;rw[<-f,zW (λe=>by subst e;rw[t]at this;cases this.2)]
  simp only[go_sem,C,v];have A:(n.take i).length=i:=by rw[yK];omega
  refine D.app2 uS pw uZ ow jS jS (by rw[A,tS];unfold lim;simp;omega) (by rw[A];unfold lim;simp;omega) ?_;intro F h6 b1 b2 E b4 b5 b6;have c1:h6.at' g.next=some (.row [d]):=by
   rw[E _ ow λz=> ?_]
   .exact C
   .have:=(D.tok z).2
    rw[C]at this;cases this
  have Y:=yM (P:=prog) (off:=0) c1 ax jS b5 b6;simp only[go_sem,Y,sD];have c2:(h6.set g.next (.row [F])).at' (g.next+1)=some (.loop B):=by
   rw[zW ow,E _ ow λz=> ?_]
   .exact a3
   .have:=(D.tok z).2
    rw[a3]at this;cases this
  refine sK c2 ⟨λj=>j=g.next\/j=g.next+1\/sQ F j,λj l=> ?_,⟨by simp only[go_sem];omega,λj l J=> ?_⟩,.inl ⟨rfl,by simp only[go_sem];omega,?_,F,?_,?_,λj=>Iff.rfl⟩⟩
  .rcases l with rfl|rfl|l
   .exact .inl ((s _).2 (.inl rfl))
   .exact .inl ((s _).2 (.inr (.inl rfl)))
   .exact .inr (by have:=b4 j l;omega)
  .have n1:j≠g.next:=λe=>J ((s j).2 (.inl e))
   have n2:j≠g.next+1:=λe=>J ((s j).2 (.inr (.inl e)));rw[zW n2,zW n1,E j ow (λz=>J ((s j).2 (.inr (.inr z)))),<-f,zW n2]
  .rw[zU,<-hB]
  .rw[zW ow,zU]
  .have:n.take (i+1)=n.take i++ [[m]]:=by rw[List.take_add_one,hc];rfl
   rw[this];refine b1.loc (zD _) λj l=> ?_;have:=b4 j l;rw[zW ow,zW ow]
 refine(EE hx hy ha hb ow ow yl (S:=λi=>i=g.next\/i=g.next+1) (w:=(g.new g.next (.row [.nilsl])).new (g.next+1) (.loop L)) ?_).mono ?_
 .refine⟨?_,z5 _ _ _,.nilsl,by rw[zg ow,z5],.inl ⟨rfl,rfl⟩,λj=>by simp[sQ]⟩
  rw[qQ _ (by rw[za];exact zD _)];omega
 rintro r h2 ⟨S',M,K⟩;obtain⟨g1,t,d,G,u,s⟩:=K;rw[<-X,zt]at u;refine⟨L,t,?_,?_⟩
 .rw[<-H];intro e;cases e
 have hp:L.pending=none:=by rw[<-H]
 rw[hp,pM];have k1:(h2.del (g.next+1)).at' g.next=some (.row [d]):=by rw[wQ ow];exact G
 have p:=u.fin V;have hq:=hQ d (h2.del (g.next+1)) ⟨Ext.del (Ext.of_but (((Ext.refl g).new (zD _) _).new ow _) M λj l=>by rcases l with rfl|rfl<;>omega) ow,yw (yD _) _ p.1,p.2⟩;exact au
def Ko{a b:List Alt}(k:yg 1 (qe a) x)(l:yg 1 (qe b) y)(f:∀q∈a,q.Ok)(i:∀q∈b,q.Ok)(c:a.length<=256)(d:b.length<=256)(g:Heap):
  zE prog 253 [.fn (.func 337) [] [.iptr [x] 0,.iptr [y] 0]] g λr h'=>h'=g/\Fin 1 (qe ((aW a b).map mkA)) r:=by
 have h1:=Rw k l f i c d;refine xP λQ e=> ?_;refine zo zMF ?_;simp only[f253,zA];simp only[go_sem, *];refine(h1 _).mono ?_;rintro r h ⟨j,hf⟩;subst j;have:=e r h ⟨rfl,hf⟩;exact au
def PZ(l:List (List Trm)):D:=.tuple (if l.length>64 then [.nilsl,.int .i64 10]else [.sl 1 (qe (l.map mkA)) .no,.int .i64 0])
def NN{l:List (List Trm)}(e:l.length<=1048576)(g:Heap):
  zE prog 251 [.sl 1 (qe (l.map mkA)) .no] g λr h'=>h'=g/\r=PZ l:=by
 have a:=tA (l:=l.map mkA) (yg.mk .no);rw[zH]at a;refine xP λQ d=> ?_;have b:=d (PZ l) g ⟨rfl,rfl⟩;unfold PZ at b;refine zo zMD ?_;simp only[f251,zA];by_cases c:l.length>64
 .rw[ip c]at b
  have e1:decide ((l.length:Int)>64)=true:=zR ow;exact au
 .rw[iq c]at b
  have e1:decide ((l.length:Int)>64)=false:=zO ow;exact au
def WQ(l:List Lic):∀x∈gU l,x.length=4:=λx a=>by
 obtain⟨y,_,rfl⟩:=zN.1 a;rfl
def ED(x y:Lic)(g:Heap):zE prog 328 [.agg x.cells,.agg y.cells] g λr h'=>h'=g/\r=.int .i64 (tD x.ver y.ver):=by
 have h1:=Xh x.ver y.ver;refine zo zMb ?_;simp only[f328,zA];simp only[Lic.cells]
 repeat' first|simp only[go_sem, *]|apply bc<;>intro a|refine zE.use (h1 _) ?_
def zAq{l:List Lic}(h0:l≠[])(s:l.length<=1048576)(a:g.at' id=some (.row (gU l).flatten)):
  zE prog 327 [.rs id 4 0 l.length,.fn (.func 328) [] []] g λr h'=>r=.tuple []/\∃ys:List Lic,ys.Perm l/\h'=g.set id (.row (gU ys).flatten):=by
 have:=zE.of_sortK (P:=prog) (f:=327) (cmp:=328) (k:=4) (cells:=Lic.cells) (xs:=l) (id:=id) (pre:=[]) (post:=[]) (h:=g) (cf:=λx y=>tD x.ver y.ver) (mid:=[]) (midV:=[]) (λM ρ vs h=>by simpa [wI]using h) h0 ow (λ_ _=>rfl) kr (enters_of func328 kr rfl) (by simpa [gU]using a) (Wk.key Lic.ver).swo ow
  (λx _ y _ H=>ED x y H) (λα _ enc h1 e cf j g cb b off cap d w o n i m c q=>AnyQ.slices_SortFunc Tryz.sortLic 4 (isAgg117) (sizeOf117) enc h1 e cf j g cb b off cap d w o n i m c)
 refine this.mono λr h' ⟨e1,ys,p,c,e2⟩=>⟨e1,ys,p,?_⟩;rw[e2];simp[gU]
def ov(x y:Lic):Bool:=y.fam==x.fam&&decide (y.ver>=x.ver)
def fN(c:Cat)(x:Lic):List (List UInt8):=(c.ls.filter (ov x)).map Lic.name
def Qc{k:List UInt8}{x:Lic}(h:mY c k=some x):x∈c.ls:=by
 unfold mY at h;split at h
 .cases h
 .split at h
  .exact zj h
  .cases h
def Qx{x:Lic}(h:x∈c.ls):c.ls.filter (ov x)≠[]:=λe=>by
 have:x∈c.ls.filter (ov x):=wO.2 ⟨h,by simp[ov]⟩;rw[e]at this;cases this
def zB5(x:Lic)(nid:Nat)(h:Heap):yA prog false nid 22 1 [(0,.agg [.str x.name,.str x.fam,.int .i64 x.ver,.str x.text])] h=some (.sl 4 [x.cells] .full,h):=
 qD (P:=prog) (x:=.agg [.str x.name,.str x.fam,.int .i64 x.ver,.str x.text]) aB VL j8 rfl rfl ow ow rfl rfl
theorem zAX(n:uL c d)(hs:c.Sm){k:List UInt8}{x:Lic}(hf:mY c k=some x)(g:Heap):
  zE prog 250 [d,.str k] g λr h'=>h'=g/\∃ns,ns.Perm (fN c x)/\r=.tuple [.sl 1 (wh ns) .no,.int .i64 0]:=by
 have F:=IP n hs k;have S:fK c k=.tuple [.agg [.str x.name,.str x.fam,.int .i64 x.ver,.str x.text],.bool true]:=by unfold fK;rw[hf]
 rw[S]at F;clear S;refine xU kr λba=>xS ?_;refine xP λQ hQ=> ?_;have ad:=Qc hf;have s1:=hs.ls.1;obtain⟨a,b,e,p,rfl,ha,hb,he,hp⟩:=n;have A:=rV ha;have Y:=gL x;obtain⟨G0,N,r0,E0,n0⟩:∃G,g.new g.next (.row [.str x.name,.str x.fam,.int .i64 x.ver,.str x.text])=G/\G.at' g.next=some (.row [.str x.name,.str x.fam,.int .i64 x.ver,.str x.text])/\Ext g G/\g.next<G.next:=⟨_,rfl,z5 _ _ _,(Ext.refl g).new (zD _) _,by rw[za];omega⟩;refine zo zMC ?_;simp only[f250,zA]
 repeat' first|simp only[go_sem, *]|apply bc<;>intro n|(refine zE.mono (F _) ?_;rintro r h ⟨hq,rfl⟩)
 clear Y F hb he hp;refine zZ (λi fr h=>∃s,fr 6=.ptr g.next 0/\fr 23=a/\fr 24=.int .i64 (c.ls.length:Int)/\fr 25=.int .i64 (i:Int)/\fr 8=s/\YK G0 h 4 (gU ((c.ls.take i).filter (ov x))) s) c.ls.length ow ?_ ?_ ?_
 .have a7:=YK.start (Ext.refl G0) 4
  simp only[go_sem,zQ,zT,zG];exact⟨_,rfl,a7⟩
 .rintro i fr l z ec ew ⟨s,f6,ai,aj,ak,f8,j⟩
  have a1:=p0 ha z;have w:(c.ls.take (i+1)).filter (ov x)=(c.ls.take i).filter (ov x)++ [c.ls[i]].filter (ov x):=by rw[zM z,t8]
  have I:((c.ls.take i).filter (ov x)).length<=i:=zY (wH _ _) (by rw[yK];omega);rw[w];clear w;generalize c.ls[i]=y at *
  generalize(c.ls.take i).filter (ov x)=pre at *
  have a8:=gL y l l.next;have r1:(l.new l.next (.row [.str y.name,.str y.fam,.int .i64 y.ver,.str y.text])).at' g.next=some (.row [.str x.name,.str x.fam,.int .i64 x.ver,.str x.text]):=by
   rw[zg (by have:=j.1.1;omega),j.1.2 _ n0];exact r0
  have r2:(l.new l.next (.row [.str y.name,.str y.fam,.int .i64 y.ver,.str y.text])).at' l.next=some (.row [.str y.name,.str y.fam,.int .i64 y.ver,.str y.text]):=z5 _ _ _;have m:=j.ext ((Ext.refl l).new (zD _) (.row [.str y.name,.str y.fam,.int .i64 y.ver,.str y.text]));simp only[Lic.cells]at a1;have W:=zB5 y;generalize l.new l.next (.row [.str y.name,.str y.fam,.int .i64 y.ver,.str y.text])=H at *
  obtain⟨d',G,E,v,K⟩:=m.app (P:=prog) (ys:=gU [y]) (tk:=.full) aB Di j8 ow (λcs=>pN underlying117) (WQ _) (WQ _) (by simp[gU]) (by rw[lI,Kh];unfold lim;simp[gU];omega) (by rw[lI];unfold lim;simp[gU];omega);have R:gU [y]= [y.cells]:=rfl;rw[R]at E K v;have U:gU (pre++ [y])=gU pre++ [y.cells]:=by simp[gU]
  rw[<-U]at v;clear j U R hQ A ha E0 N r0;cases q1:(y.fam==x.fam)with
  |false=>
   have f:pre++ [y].filter (ov x)=pre:=by simp[ov,q1]
   rw[f];clear f E K v
   repeat' first|simp only[go_sem, *]|apply bc<;>intro n
   exact⟨_,rfl,m⟩
  |true=>
   cases q2:decide (y.ver>=x.ver)with
   |false=>
    have f:pre++ [y].filter (ov x)=pre:=by simp only[tB,ov,q1,q2];simp
    rw[f];clear f E K v
    repeat' first|simp only[go_sem, *]|apply bc<;>intro n
    exact⟨_,rfl,m⟩
   |true=>
    have f:pre++ [y].filter (ov x)=pre++ [y]:=by simp only[tB,ov,q1,q2];simp
    rw[f];clear f m
    repeat' first|simp only[go_sem, *]|apply bc<;>intro n
    exact⟨_,rfl,v⟩
 .rintro fr l ec ⟨s,f6,ai,aj,ak,f8,j⟩
  rw[zt]at j;have J:=Qx ad;have a4:(c.ls.filter (ov x)).length<=1048576:=zY (wH _ _) s1;have hS:fN c x=(c.ls.filter (ov x)).map Lic.name:=rfl;rw[hS]at hQ;clear hS;generalize c.ls.filter (ov x)=L at *
  obtain⟨hx,n⟩:=j;rcases n with⟨_,e⟩ | ⟨id,rfl,C,hid,T,_⟩
  .exact absurd (by simpa [gU]using e) J
  rw[lI]at f8;have X:=zAq J a4 C;have O:∀(ys:List Lic) r h',ys.Perm L->Ext g h'->below g.next (qC r)->Fin 1 (wh (ys.map Lic.name)) (qC r)->Q (.tuple [r,.int .i64 0]) h':=λys r h' q0 q1 q2 q3=>by
   refine hQ _ _ ⟨q1,?_,?_⟩
   .simp only[qC,qW,below,qM];exact⟨q2,trivial,trivial⟩
   .refine⟨ys.map Lic.name,q0.map _,?_⟩
    rcases q3 with⟨_,e⟩ |e
    .have:ys= []:=by simpa [wh]using e
     subst this;exact absurd (bh.1 q0) J
    .simp only[qC,qW,e]
  clear hQ ad A ha;have Z:g.next<=id:=zY E0.1 hid
  repeat' first|simp only[go_sem, *]|apply bc<;>intro n
  refine X.mono ?_;rintro r h3 ⟨rfl,ys,hp,rfl⟩;have a9:=hp.length_eq;have r1:(l.set id (.row (gU ys).flatten)).at' id=some (.row (gU ys).flatten):=zU _ _ _;have M:Ext g (l.set id (.row (gU ys).flatten)):=(E0.trans hx).set Z _;have u:id<(l.set id (.row (gU ys).flatten)).next:=T;generalize l.set id (.row (gU ys).flatten)=H at *
  have bb:=λ(h:Heap)=>oC (P:=prog) (t:=22) (sz:=4) (id:=id) (off:=0) (len:=L.length) (h:=h) underlying22;have D:=λr h'=>O ys r h' hp;clear O X C hx E0 N r0
  repeat' first|simp only[go_sem, *]|apply bc<;>intro n
  refine zZ (λi fr h=>∃o,fr 48=.rs id 4 0 L.length/\fr 49=.int .i64 (L.length:Int)/\fr 50=.int .i64 (i:Int)/\fr 11=o/\Own H h 1 (wh ((ys.take i).map Lic.name)) o) L.length ow ?_ ?_ ?_
  .have hs:=Own.start (Ext.refl H) 1
   simp only[go_sem,zQ,zT,zG];exact⟨_,rfl,hs⟩
  .rintro i fr h3 z ec ew ⟨o,a0,a2,a3,ag,j⟩
   have B:i<ys.length:=ow;have a1:=qG (P:=prog) (sz:=4) (id:=id) aB j8 (k:=.i64) z;have a6:h3.at' id=some (.row (gU ys).flatten):=by rw[j.1.2 _ u];exact r1
   have p1:=nb (WQ ys) ow (LN B);have w:(ys.take (i+1)).map Lic.name=(ys.take i).map Lic.name++ [ys[i].name]:=by rw[zM B,qf];rfl
   have I:((ys.take i).map Lic.name).length=i:=by rw[zH,yK];omega
   rw[w];clear w;generalize ys[i]=y at *
   generalize(ys.take i).map Lic.name=pre at *
   simp only[Lic.cells]at p1;have a8:=gL y h3 h3.next;have m:=j.ext ((Ext.refl h3).new (zD _) (.row [.str y.name,.str y.fam,.int .i64 y.ver,.str y.text]));have r2:(h3.new h3.next (.row [.str y.name,.str y.fam,.int .i64 y.ver,.str y.text])).at' h3.next=some (.row [.str y.name,.str y.fam,.int .i64 y.ver,.str y.text]):=z5 _ _ _;have W:=fS y.name;generalize h3.new h3.next (.row [.str y.name,.str y.fam,.int .i64 y.ver,.str y.text])=h4 at *
   clear D j r1 M u
   repeat' first|simp only[go_sem, *]|apply bc<;>intro n
   refine m.appH (ys:=wh [y.name]) uI ZR p9 ow RL (by simp[wh]) (by rw[qv,oo,I];unfold lim;simp[wh];omega) (by rw[qv,I];unfold lim;simp[wh];omega) λd' h' V=> ?_;have a5:Own H h' 1 (wh (pre++ [y.name])) d':=by
    have:wh (pre++ [y.name])=wh pre++wh [y.name]:=by simp[wh]
    rw[this];exact V
   clear m V
   repeat' first|simp only[go_sem, *]|apply bc<;>intro n
   exact⟨_,rfl,a5⟩
  .rintro fr h3 ec ⟨o,a0,a2,a3,ag,j⟩
   rw[<-a9,zt]at j;have q:=j.2.1.fin uh;have hq:=D o h3 (M.trans j.1) (yw (yD _) _ q.1) q.2;clear D q j;exact au
def szd(l:List (List Trm)):Option (List (List Trm)):=if l.length>64 then none else some l
def cT(a b:List (List Trm)):List (List Trm):=aW (a.map mkA) (b.map mkA)
mutual
def aT(c:Cat):Ex->Option (List (List Trm))
 |.mk k n x l _=>if(k==0)=true then some [[⟨n,x⟩]]else if(k==1)=true then(match mY c n with
   |none=>none
   |some y=>szd (wv ((fN c y).map λs=>[⟨s,[]⟩])))
  else match bJ c k l true []with
   |none=>none
   |some out=>szd (wv out)
def bJ(c:Cat)(k:Int):List Ex->Bool->List (List Trm)->Option (List (List Trm))
 | [],_,out=>some out
 |e::es,first,out=>match aT c e with
  |none=>none
  |some l=>if(k==3)=true then bJ c k es false (out++l)else if first=true then bJ c k es false l else match szd (wv (cT out l))with
   |none=>none
   |some o=>bJ c k es false o
end
def Ex.Fit(c:Cat)(e:Ex):Prop:=∀x∈e.pre,x.err=0/\MP c x=0
theorem Ln:∀{l:List Ex}{e x:Ex},e∈l->x∈e.pre->x∈XK l
 |a::l,e,x,h,b=>by
  simp only[XK];rcases yE.1 h with rfl|h
  .grind
  .exact rc _ (Ln h b)
def Ex.Fit.kid{e k:Ex}(h:e.Fit c)(a:k∈e.kids):k.Fit c:=λx b=>by
 obtain⟨g,n,f,l,d⟩:=e;exact h x (by simp only[Ex.pre];exact yG _ (Ln a b))
def Ex.Fit.self(h:e.Fit c):e.err=0/\MP c e=0:=by
 obtain⟨b,n,a,l,d⟩:=e;exact h _ (by simp only[Ex.pre];exact qZ)
theorem aH{f:Nat->Int} :∀{n:Nat},gI f n=0->∀i,i<n->f i=0
 |n+1,h,i,a=>by
  simp only[gI]at h;split at h
  .rename_i q
   rcases zx.1 a with g|rfl
   .exact aH (by simpa using q) i g
   .exact h
  .grind
def M5(h:nO c e=0):pR c=0/\e.size<=64/\e.Fit c:=by
 unfold nO at h;split at h
 .grind
 rename_i f;split at h
 .grind
 rename_i g;have a:fL e=0:=by simpa using g
 unfold fL at a;split at a
 .grind
 rename_i j;split at a
 .grind
 refine⟨by simpa using f,by simp at j;omega,λx d=> ?_⟩;obtain⟨i,b,rfl⟩:=zy.1 d;rw[e.pre_len]at b
 grind [aH,Ex.errAt,Ex.unk]
def M4{k:Int}{n x:List UInt8}{l:List Ex}(h:(Ex.mk k n x l d).Fit c):((k=0\/k=1)/\l= []/\(k=1->x= [])/\∃y,mY c n=some y)\/((k=2\/k=3)/\2<=l.length):=by
 obtain⟨h1,b⟩:=h.self;replace h1:bL k n x l.length=0:=h1;unfold bL at h1;by_cases q:((k==0)||(k==1))=true
 .left
  rw[ip q]at h1;by_cases a:(decide ((l.length:Int)>0)||((k==1)&& !(x== [])))=true
  .grind
  rw[iq a]at h1;by_cases f:(!nP n||(!(x== [])&& !nP x))=true
  .grind
  simp only[qN,qj,zP,zF,qH,Wd,not_and,pG,yf]at q a f;refine⟨q,yN.1 ow,λe=>by simpa using a.2 e,?_⟩;replace b:(if(!(n== [])&& !VY c n x)=true then(7:Int)else 0)=0:=b
  by_cases i:(!(n== [])&& !VY c n x)=true
  .grind
  have g:¬(n== [])=true:=λe=>by
   have:n= []:=by simpa using e
   subst this;exact absurd f.1 jD
  grind [VY,mY]
 .grind
theorem LV{l:List (List Trm)}(h:l≠[]):∀n,0<n->n<=l.length->gV l n≠[]
 |1,_,a=>by grind [gV,fP]
 |n+2,_,a=>by
  have b:=LV h (n+1) ow ow;rw[gV,zB ow];simp only[fP];split
  .exact b
  .simp
def WY{l:List (List Trm)}(h:l≠[]):wv l≠[]:=by
 have a:(p8 l).length=l.length:=by rw[p8,(sX _).length_eq,zH]
 have b:0<l.length:=z7.2 h
 grind [LV,wv]
def fR(l:List (List Trm)):(wv l).length<=l.length:=by
 have a:(p8 l).length=l.length:=by rw[p8,(sX _).length_eq,zH]
 grind [WX,p8,wv]
def Tp{l m:List (List Trm)}(h:l.Perm m):wv l=wv m:=by
 unfold wv p8;rw[Gf Wj Rr (h.map mM)]
def XP{l m:List (List Trm)}(h:szd l=some m):m=l/\l.length<=64:=by grind [szd]
structure AltsOk(n:Nat)(l:List (List Trm)):Prop where
 ne:l≠[]
 ts:∀t∈l,t≠[]/\t.length<=n
def AltsOk.mono{n m:Nat}{l:List (List Trm)}(h:AltsOk n l)(b:n<=m):AltsOk m l:=⟨h.ne,λt a=>⟨(h.ts t a).1,zY (h.ts t a).2 b⟩⟩
def AltsOk.min{l:List (List Trm)}(h:AltsOk n l):AltsOk n (wv l):=⟨WY h.ne,λt b=>by
 obtain⟨y,c,rfl⟩:=Q6 b;obtain⟨h1,a⟩:=h.ts y c;exact⟨Lb h1,zY (PA _) a⟩⟩
def AltsOk.app{l m:List (List Trm)}(h:∀t∈l,t≠[]/\t.length<=n)(k:AltsOk n m):AltsOk n (l++m):=⟨λe=>k.ne (gP.1 e).2,λt a=>by
 rcases yv.1 a with q|q
 .exact h t q
 .exact k.ts t q⟩
def JO{a b:List (List Trm)}{t:List Trm}(h:t∈cT a b):∃x∈a,∃y∈b,t=x++y:=by
 obtain⟨k,d,rfl⟩:=zN.1 h;rw[yn,zH,zH]at d;have c:0<b.length:=by grind
 have h1:k/b.length<a.length:=by rw[nj c];exact d
 have e:k%b.length<b.length:=ZW _ c
 grind [Ye,mkA]
def UQ(a b:List (List Trm)):(cT a b).length=a.length*b.length:=by grind [cT,UP]
def AltsOk.pairs{n m:Nat}{a b:List (List Trm)}(h:AltsOk n a)(k:AltsOk m b):AltsOk (n+m) (cT a b):=by
 refine⟨λe=> ?_,λt d=> ?_⟩
 .have:=UQ a b
  rw[e]at this;have h1:0<a.length:=z7.2 h.ne;have c:0<b.length:=z7.2 k.ne;have:=XW h1 c;simp at *;omega
 .obtain⟨x,f,y,g,rfl⟩:=JO d
  have h1:=h.ts x f;have c:=k.ts y g;exact⟨λe=>h1.1 (gP.1 e).1,by rw[zS];omega⟩
def X4{n:List UInt8}{y:Lic}(h:mY c n=some y):fN c y≠[]:=λe=>Qx (Qc h) (ue.1 e)
def Np:∀n:Nat,(∀e:Ex,e.size<=n->e.Fit c->∀l,aT c e=some l->l.length<=64/\AltsOk e.size l)/\
  ∀(k:Int)(a:List Ex),qd a<=n->(∀e∈a,e.Fit c)->∀(m:Nat)(first:Bool)(out R:List (List Trm)),(∀t∈out,t≠[]/\t.length<=m)->(first=false->out≠[])->(a= []->out≠[])->bJ c k a first out=some R->AltsOk (m+qd a) R/\R.length<=out.length+64*a.length:=by
 intro n
 induction n with
 |zero=>
  refine⟨λe h=> ?_,λk a h hf m first out R h1 A h3 b=> ?_⟩
  .cases e;simp only[Ex.size]at h;omega
  .cases a with
   |nil=>simp only[bJ]at b;cases b;exact⟨⟨h3 rfl,by simpa [qd]using h1⟩,jS⟩
   |cons e l=>cases e;simp only[qd,Ex.size]at h;omega
 |succ n w=>
  have key:∀e:Ex,e.size<=n+1->e.Fit c->∀l,aT c e=some l->l.length<=64/\AltsOk e.size l:=λe h hf l f=>by
   obtain⟨k,J,x,a,d⟩:=e;simp only[Ex.size]at h⊢;have I:=M4 hf;rw[aT]at f;split at f
   .cases f
    exact⟨jS,jS,λt p=>by cases zi.1 p;exact⟨jS,jS⟩⟩
   split at f
   .split at f
    .cases f
    .rename_i y H
     obtain⟨rfl,q⟩:=XP f;refine⟨q,AltsOk.min ⟨by simpa using X4 H,λt p=> ?_⟩⟩;obtain⟨s,_,rfl⟩:=zN.1 p;exact⟨jS,jS⟩
   .rename_i K L
    split at f
    .cases f
    .rename_i out v
     obtain⟨rfl,q⟩:=XP f;have z:2<=a.length:=by grind
     have:=w.2 k a ow (λe E=>hf.kid E) 0 true [] out (λt p=>by cases p) jS (λe=>by subst e;simp at z) v;exact⟨q,this.1.min.mono ow⟩
  refine⟨key,λk a h hf m first out R h1 A h3 b=> ?_⟩
  cases a with
  |nil=>simp only[bJ]at b;cases b;exact⟨⟨h3 rfl,by simpa [qd]using h1⟩,jS⟩
  |cons e a=>
   have B:0<e.size:=by cases e;simp only[Ex.size];omega
   simp only[qd]at h⊢;rw[bJ]at b;split at b
   .cases b
   .rename_i l f
    obtain⟨C,g⟩:=key e ow (hf e jS) l f;have r:∀e∈a,e.Fit c:=λx G=>hf x (yG _ G);split at b
    .have i:=AltsOk.app (n:=m+e.size) (λt p=>⟨(h1 t p).1,zY (h1 t p).2 ow⟩) (g.mono (show e.size<=m+e.size by omega))
     have:=w.2 k a ow r (m+e.size) false (out++l) R i.ts (λ_=>i.ne) (λ_=>i.ne) b
     grind
    .split at b
     .have i:=g.mono (show e.size<=m+e.size by omega)
      have:=w.2 k a ow r (m+e.size) false l R i.ts (λ_=>i.ne) (λ_=>i.ne) b
      grind
     .rename_i j
      have u:out≠[]:=A (by simpa using j);split at b
      .cases b
      .rename_i o F
       obtain⟨rfl,D⟩:=XP F;have i:=(AltsOk.pairs ⟨u,h1⟩ g).min;have:=w.2 k a ow r (m+e.size) false _ R i.ts (λ_=>i.ne) (λ_=>i.ne) b
       grind
def Vc:Option (List (List Trm))->D
 |some l=>.tuple [.sl 1 (qe (l.map mkA)) .no,.int .i64 0]
 |none=>.tuple [.nilsl,.int .i64 10]
def YB(l:List (List Trm)):PZ l=Vc (szd l):=by
 unfold PZ szd;split<;>rfl
def Uk(l:List (List Trm)):qC (.sl 1 (qe (l.map mkA)) .no)=.sl 1 (qe (l.map mkA)) .no/\below 0 (.sl 1 (qe (l.map mkA)) .no):=yh (Mz l) .no
def jP(o:Option (List (List Trm)))(n:Nat):qC (Vc o)=Vc o/\below n (Vc o):=by
 cases o with
 |none=>exact⟨rfl,by simp[Vc,below,qM]⟩
 |some l=>
  obtain⟨h1,a⟩:=Uk l;refine⟨?_,?_⟩
  .simp only[Vc,qC,qW]at h1⊢
   rw[h1]
  .simp only[Vc,below,qM]
   exact⟨yw (yD _) _ a,trivial,trivial⟩
def Lf(s x:List UInt8):Alt:=⟨[⟨s,x⟩],.sl 2 [[.str s,.str x]] .full⟩
def zB2(s x:List UInt8):(Lf s x).Ok:=⟨yg.mk .full,by simp[Lf],by simp[Lf]⟩
def zD1(s x:List UInt8):qX prog 197 [(0,.str s),(1,.str x)]=some (.agg [.str s,.str x]):=by simp[qX,nQ,sj,uc,D.notTuple,D.cells,wg]
def zD0(s:List UInt8):qX prog 197 [(0,.str s)]=some (.agg [.str s,.str []]):=by simp[qX,nQ,sj,uc,D.notTuple,D.cells,wg]
def Ht(s x:List UInt8)(nid:Nat)(h:Heap):yA prog false nid 195 1 [(0,.agg [.str s,.str x])] h=some (.sl 2 [[.str s,.str x]] .full,h):=
 qD (P:=prog) (x:=.agg [.str s,.str x]) uD sj ui rfl rfl ow ow rfl rfl
def cF(c:Cat)(e:Ex):D:=Vc (aT c e)
def Kv(e:uL c d){n x:List UInt8}(g:Heap):
  zE prog 209 [d,.agg [.int .i64 0,.str n,.str x,y]] g λr h'=>h'=g/\r=Vc (some [[⟨n,x⟩]]):=by
 refine xU kr λa=>xS ?_;refine xP λQ b=> ?_;obtain⟨ca,cb,ce,cp,rfl,_,_,_,_⟩:=e;have h1:=zD1 n x;have f:=Ht n x;have h3:=λnid h=>bM (.sl 2 [[.str n,.str x]] .full) nid h rfl rfl rfl;have i:=b (.tuple [.sl 1 [[.sl 2 [[.str n,.str x]] .full]] .full,.int .i64 0]) g ⟨Ext.refl g,by
  simp[qC,qW,oJ,below,qM,nC],by simp[qC,qW,oJ,Vc,qe,mkA,wp,Trm.cells]⟩
 refine zo E7 ?_;simp only[f209,zA];exact au
def Kw(f:uL c d)(V:c.Sm){n x:List UInt8}{z:Lic}(hf:mY c n=some z)(g:Heap):
  zE prog 209 [d,.agg [.int .i64 1,.str n,.str x,y]] g λr h'=>h'=g/\r=Vc (szd (wv ((fN c z).map λs=>[⟨s,[]⟩]))):=by
 have v:=zAX f V hf;have aj:=V.ls.1;have m:=X4 hf;have ag:(fN c z).length<=c.ls.length:=by rw[fN,zH];exact wH _ _
 refine xU kr λU=>xS ?_;refine xP λQ P=> ?_;obtain⟨ca,cb,ce,cp,rfl,_,_,_,_⟩:=f;have O:=Own.start (Ext.refl g) 1;have w:∀(ns:List (List UInt8))(h:Heap),o5 prog 45 (.sl 1 (wh ns) .no) h=some (.int .i64 ns.length):=λns h=>wU (yg.mk .no) h;have k:∀(ns:List (List UInt8))(i:Nat)(T:i<ns.length),yj prog 45 (.sl 1 (wh ns) .no) (.int .i64 (i:Int))=some (.iptr [.str ns[i]] 0):=λns i T=>sw (yg.mk .no) T;refine zo E7 ?_;simp only[f209,zA]
 repeat' first|simp only[go_sem, *]|apply bc<;>intro f
 refine(v _).mono ?_;rintro r h ⟨j,ns,H,rfl⟩;subst j;have ai:ns.length<=1048576:=by rw[H.length_eq];omega
 have F:ns≠[]:=λe=>by subst e;exact m (bh.1 H)
 have ad:=w ns;clear w v
 repeat' first|simp only[go_sem, *]|apply bc<;>intro f
 refine zZ (λi fr N=>∃o,fr 35=.sl 1 (wh ns) .no/\fr 36=.int .i64 (ns.length:Int)/\fr 37=.int .i64 (i:Int)/\fr 6=o/\Own h N 1 (qe ((ns.take i).map λs=>Lf s [])) o) ns.length ow ?_ ?_ ?_
 .simp only[go_sem,zQ,zT,zG]
  exact⟨_,rfl,O⟩
 .rintro i fr N B Y ew ⟨o,J,K,L,Z,p⟩
  have a1:=k ns i B;have I:(ns.take (i+1)).map (λs=>Lf s [])=(ns.take i).map (λs=>Lf s [])++ [Lf ns[i] []]:=by rw[zM B,qf];rfl
  have A:((ns.take i).map λs=>Lf s []).length=i:=by rw[zH,yK];omega
  rw[I];clear I P k H;generalize ns[i]=s at *
  generalize(ns.take i).map (λs=>Lf s [])=pre at *
  have b1:=zD0 s;have b2:=Ht s [];have b3:=λnid h=>bM (.sl 2 [[.str s,.str []]] .full) nid h rfl rfl rfl
  repeat' first|simp only[go_sem, *]|apply bc<;>intro f
  refine p.appH (ys:=qe [Lf s []]) uS pw uZ ow (sv _) (by simp[qe]) (by rw[qB,tS,A];unfold lim;simp[qe];omega) (by rw[qB,A];unfold lim;simp[qe];omega) λX h' G=> ?_;have R:Own h h' 1 (qe (pre++ [Lf s []])) X:=by
   have:qe (pre++ [Lf s []])=qe pre++qe [Lf s []]:=by simp[qe]
   rw[this];exact G
  clear p G
  repeat' first|simp only[go_sem, *]|apply bc<;>intro f
  exact⟨_,rfl,R⟩
 .rintro fr N Y ⟨o,J,K,L,Z,p⟩
  rw[zt]at p;have l:=Xq p.isSl (by simpa using F) (by rw[zH];omega) (λa ha=>by
   obtain⟨s,_,rfl⟩:=zN.1 ha;exact zB2 s [])
  have E:wv ((ns.map λs=>Lf s []).map Alt.ts)=wv ((fN c z).map λs=>[⟨s,[]⟩]):=by
   rw[wA];exact Tp (H.map _)
  rw[E]at l;have C:wv ((fN c z).map λs=>[⟨s,[]⟩])≠[]:=WY (by simpa using m);have D:(wv ((fN c z).map λs=>[⟨s,[]⟩])).length<=1048576:=by
   refine zY (fR _) ?_;rw[zH];omega
  generalize wv ((fN c z).map λs=>[⟨s,[]⟩])=M at *
  have b:=NN D;rw[YB]at b;have q:∀h',Ext h h'->Q (Vc (szd M)) h':=λh' he=>P _ _ ⟨he,by rw[(jP _ 0).1];exact(jP _ _).2,by rw[(jP _ 0).1]⟩;have t:=p.1;clear P E H k m F p;have u:∀r,Fin 1 (qe (M.map mkA)) r->r=.sl 1 (qe (M.map mkA)) .no:=λr hr=>by
   rcases hr with⟨_,e⟩ |e
   .exact absurd (by simpa [qe]using e) C
   .exact e
  repeat' first|simp only[go_sem, *]|apply bc<;>intro f
  refine(l _).mono ?_;rintro r h3 ⟨j,hr⟩;subst j;have S:=u r hr;subst S;have j:=q _ t;clear q hr l t C D;cases W:szd M with
  |none=>
   rw[W]at b j;simp only[Vc]at b j
   repeat' first|simp only[go_sem, *]|apply bc<;>intro f|refine zE.use (b _) ?_
  |some M'=>
   rw[W]at b j;simp only[Vc]at b j
   repeat' first|simp only[go_sem, *]|apply bc<;>intro f|refine zE.use (b _) ?_
def HB{l:List (List Trm)}(h0:l≠[]){r:D}(hr:Fin 1 (qe (l.map mkA)) r):r=.sl 1 (qe (l.map mkA)) .no:=by
 rcases hr with⟨_,e⟩ |e
 all_goals simp_all [qe]
def Tq{m:Nat}{l:List (List Trm)}(h:∀t∈l,t≠[]/\t.length<=m)(a:m<=4096):∀q∈l.map mkA,q.Ok:=by grind [LX]
def Ao(l:List (List Trm)):(l.map mkA).map Alt.ts=l:=by rw[wA];exact List.map_id _
structure MInv(c:Cat)(k:Int)(l:List Ex)(R:Option (List (List Trm)))(g:Heap)(i:Nat)(out:List (List Trm))(o:D)(h:Heap):Prop where
 hE:Ext g h
 hK:bJ c k (l.drop i) (i==0) out=R
 hor:k=3->Own g h 1 (qe (out.map mkA)) o
 hand:k≠3->(i=0/\out= [])\/(out≠[]/\o=.sl 1 (qe (out.map mkA)) .no/\out.length<=64)
 hts:∀t∈out,t≠[]/\t.length<=qd (l.take i)
 hol:out.length<=64*i+64
theorem IT(D:uL c d)(hs:c.Sm):∀(n:Nat)(e:Ex),e.size<=n->e.size<=64->e.Fit c->e.Ok->∀g:Heap,
  zE prog 209 [d,.agg e.cells] g λr h'=>h'=g/\r=cF c e:=by
 intro n
 induction n with
 |zero=>intro e h;cases e;simp only[Ex.size]at h;omega
 |succ n ih=>
 intro e hn W J S g;obtain⟨k,nm,x,l,dd⟩:=e;have I:(Ex.mk k nm x l dd).cells= [.int .i64 k,.str nm,.str x,dd]:=rfl;rw[I];simp only[Ex.size]at hn W;have F:∀(i:Nat)(hi:i<l.length),l[i].Fit c/\l[i].Ok/\∀g:Heap,zE prog 209 [d,.agg l[i].cells] g λr h'=>h'=g/\r=cF c l[i]:=λi hi=>by
  have Z:=zI hi;have h1:l[i].Fit c:=J.kid (e:=.mk k nm x l dd) Z;have h2:l[i].Ok:=p6 (by simp only[Ex.Ok]at S;exact S.2.2.2.2) _ Z;have h3:=uG Z;exact⟨h1,h2,ih _ ow ow h1 h2⟩
 rcases M4 J with⟨hk,hl,hx,y,hy⟩ | ⟨hk,b6⟩
 .rcases hk with rfl|rfl
  .refine(Kv D (n:=nm) (x:=x) (y:=dd) g).mono λr h' ⟨q1,q2⟩=>⟨q1,?_⟩
   rw[q2];simp[cF,aT]
  .refine(Kw D hs hy (x:=x) (y:=dd) g).mono λr h' ⟨q1,q2⟩=>⟨q1,?_⟩
   rw[q2];simp[cF,aT,hy]
 have e0:(k==0)=false:=by rcases hk with rfl|rfl<;>rfl
 have e1:(k==1)=false:=by rcases hk with rfl|rfl<;>rfl
 have hR:aT c (.mk k nm x l dd)=match bJ c k l true []with
  |none=>none
  |some out=>szd (wv out):=by rw[aT,iq (by rw[e0];exact zV),iq (by rw[e1];exact zV)];try (cases bJ c k l true []<;>rfl)
 have N:∀R,bJ c k l true []=some R->AltsOk 64 R/\R.length<=64*l.length:=λR hR=>by
  have:=(Np (c:=c) (qd l)).2 k l (zD _) (λe he=>J.kid (e:=.mk k nm x l dd) he) 0 true [] R (λt V=>by cases V) jS (λe=>by subst e;simp at b6) hR;exact⟨this.1.mono ow,by simpa using this.2⟩
 have ch:l.length<=64:=by
  have:∀l:List Ex,l.length<=qd l:=λl=>by
   induction l with
   |nil=>simp
   |cons e l ih=>simp only[qd,zu];cases e;simp only[Ex.size];omega
  have:=this l;omega
 have a5:yg 4 (exs l) dd:=by simp only[Ex.Ok]at S;exact S.1
 have z:=λ(e:Ex) (he:e.Fit c) (l:List (List Trm)) (hl:aT c e=some l)=>(Np (c:=c) e.size).1 e (zD _) he l hl;have a2:∀i (hi:i<l.length),qd (l.take (i+1))=qd (l.take i)+l[i].size/\qd (l.take (i+1))<=qd l:=λi hi=>by
  have app:∀a b:List Ex,qd (a++b)=qd a+qd b:=λa b=>by
   induction a with
   |nil=>simp[qd]
   |cons e a ih=>simp only[zq,qd,ih];omega
  refine⟨by rw[zM hi,app];simp[qd],?_⟩;have:=app (l.take (i+1)) (l.drop (i+1));rw[yk]at this;omega
 obtain⟨R,eR⟩:∃R,bJ c k l true []=R:=⟨_,rfl⟩;refine xU kr λcf=>xS ?_;refine xP λQ hQ=> ?_;have p:∀h',Ext g h'->Q (cF c (.mk k nm x l dd)) h':=λh' he=>hQ _ _ ⟨he,by unfold cF;rw[(jP _ 0).1];exact(jP _ _).2,by unfold cF;rw[(jP _ 0).1]⟩;unfold cF at p;rw[hR,eR]at p;rw[eR]at N;clear hQ hR J S ih I;obtain⟨ca,cb,ce,cp,rfl,_,_,_,_⟩:=D;have cc:=p5 a5;have b4:=Own.start (Ext.refl g) 1;refine zo E7 ?_;simp only[f209,zA]
 repeat' first|simp only[go_sem, *]|apply bc<;>intro D
 refine zZ (λi fr h=>∃out o,fr 2=.iptr [ca,cb,ce,cp] 0/\fr 3=.iptr [.int .i64 k,.str nm,.str x,dd] 0/\fr 54=dd/\fr 55=.int .i64 (l.length:Int)/\fr 56=.int .i64 (i:Int)/\fr 6=o/\MInv c k l R g i out o h) l.length ow ?_ ?_ ?_
 .have h0:MInv c k l R g 0 [] .nilsl g:=⟨Ext.refl g,eR,λ_=>b4,λ_=>.inl ⟨rfl,rfl⟩,λt V=>(by cases V),jS⟩
  simp only[go_sem,zQ,zT,zG];exact⟨_,_,rfl,h0⟩
 .rintro i fr h Y ec ew ⟨out,o,f2,f3,b1,b2,b3,f6,⟨hE,j,T,s,w,ad⟩⟩
  have a1:=kq a5 Y;obtain⟨kf,ko,kc⟩:=F i Y;obtain⟨s1,s2⟩:=a2 i Y;have b8:=Gg l[i] (Ex.flat ko) h h.next;have K:=hE.new hE.1 (.row l[i].cells);have bo:(h.new h.next (.row l[i].cells)).at' h.next=some (.row l[i].cells):=z5 _ _ _;rw[z8 Y,bJ]at j;have ag:=z _ kf;have ai:Ext h (h.new h.next (.row l[i].cells)):=(Ext.refl h).new (zD _) _;have A:k=3->Own g (h.new h.next (.row l[i].cells)) 1 (qe (out.map mkA)) o:=λe=>(T e).ext ai;generalize hy:l[i]=y at *
  simp only[Ex.cells]at a1 kc b8 K bo A ai;generalize hH:h.new h.next (.row [.int .i64 y.kind,.str y.name,.str y.exc,y.d])=H at *
  clear F a2 z T;have a7:((i:Int)==0)=(i==0):=by cases i<;>rfl
  have cg:(i+1==0)=false:=rfl;cases Z:aT c y with
  |none=>
   rw[Z]at j;simp only at j;have m:=p H K;rw[<-j]at m;simp only[Vc]at m;have O:cF c y=.tuple [.nilsl,.int .i64 10]:=by unfold cF;rw[Z];rfl
   rw[O]at kc;clear O p A s w j
   repeat' first|simp only[go_sem, *]|apply bc<;>intro D|(refine zE.mono (kc _) ?_;rintro r h ⟨m,rfl⟩)
  |some C=>
   rw[Z]at j;simp only at j;obtain⟨W,u⟩:=ag C Z;have O:cF c y=.tuple [.sl 1 (qe (C.map mkA)) .no,.int .i64 0]:=by unfold cF;rw[Z];rfl
   rw[O]at kc;clear O ag;cases q3:(k==3)with
   |true=>
    rw[ip q3]at j;have v:k=3:=by simpa using q3
    have bb:=A v;clear s A p
    repeat' first|simp only[go_sem, *]|apply bc<;>intro D|(refine zE.mono (kc _) ?_;rintro r h ⟨m,rfl⟩)
    subst m;refine bb.appH (ys:=qe (C.map mkA)) uS pw uZ ow (sv _) (by simpa [qe]using u.ne) (by rw[qB,qB,zH,zH,tS];unfold lim;omega) (by rw[qB,qB,zH,zH];unfold lim;omega) λd' h' a9=> ?_;have a0:Own g h' 1 (qe ((out++C).map mkA)) d':=by
     have:qe ((out++C).map mkA)=qe (out.map mkA)++qe (C.map mkA):=by simp[qe]
     rw[this];exact a9
    have B:MInv c k l R g (i+1) (out++C) d' h':=⟨a0.1,j,λ_=>a0,λq=>absurd v q,λt V=>by
     rcases yv.1 V with q|q
     .exact⟨(w t q).1,zY (w t q).2 ow⟩
     .exact⟨(u.ts t q).1,zY (u.ts t q).2 ow⟩,by rw[zS];omega⟩
    clear a9 bb j w ad u a0 v
    repeat' first|simp only[go_sem, *]|apply bc<;>intro D
    exact⟨_,_,rfl,B⟩
   |false=>
    rw[iq (by rw[q3];exact zV)]at j;have v:k≠3:=by simpa using q3
    have E:=s v;clear s A;cases q0:(i==0)with
    |true=>
     rw[ip q0]at j;have B:MInv c k l R g (i+1) C (.sl 1 (qe (C.map mkA)) .no) H:=⟨K,j,λq=>absurd q v,λ_=>.inr ⟨u.ne,rfl,W⟩,λt V=>⟨(u.ts t V).1,zY (u.ts t V).2 ow⟩,ow⟩;clear j w ad u E p;rw[q0]at a7
     repeat' first|simp only[go_sem, *]|apply bc<;>intro D|(refine zE.mono (kc _) ?_;rintro r h ⟨m,rfl⟩)
     subst m;exact⟨_,_,rfl,B⟩
    |false=>
     rw[iq (by rw[q0];exact zV)]at j;rw[q0]at a7;obtain⟨aj,ho,ba⟩:out≠[]/\o=.sl 1 (qe (out.map mkA)) .no/\out.length<=64:=by
      rcases E with⟨q,_⟩ |q
      .subst q;exact absurd q0 jD
      .exact q
     subst ho;have U:=AltsOk.pairs ⟨aj,w⟩ u;have bx:=Tq w ow;have b0:=Tq u.ts ow;have a4:=zAb (yg.mk (sz:=1) (xs:=qe (out.map mkA)) .no) (yg.mk (sz:=1) (xs:=qe (C.map mkA)) .no);have ak:=Ko (yg.mk (sz:=1) (xs:=qe (out.map mkA)) .no) (yg.mk (sz:=1) (xs:=qe (C.map mkA)) .no) bx b0 (by rw[zH];omega) (by rw[zH];omega);have bk:aW (out.map mkA) (C.map mkA)=cT out C:=rfl;rw[bk]at ak;have ck:(cT out C).length<=4096:=by
      rw[UQ];exact zY (kG ba W) ow
     have G:=Xq (yg.mk (sz:=1) (xs:=qe ((cT out C).map mkA)) .no) (by simpa using U.ne) (by rw[zH];omega) (Tq U.ts ow);rw[Ao]at G;have z:=U.min;have a8:=z.ne;have au:(wv (cT out C)).length<=1048576:=zY (fR _) ow;have a6:=λr hr=>HB U.ne (r:=r) hr;have L:=λr hr=>HB z.ne (r:=r) hr;generalize cT out C=P at *
     generalize hM:wv P=M at *
     have f:=NN au;rw[YB]at f;clear bk U bx b0 w ad u E aj
     repeat' first|simp only[go_sem, *]|apply bc<;>intro D|(refine zE.mono (kc _) ?_;rintro r h ⟨m,rfl⟩)
     subst m;clear kc;refine(a4 _).mono ?_;rintro r h1 ⟨m,rfl⟩;subst m;clear a4
     repeat' first|simp only[go_sem, *]|apply bc<;>intro D
     refine(ak _).mono ?_;rintro r h2 ⟨m,hr⟩;subst m;have hr:=a6 r hr;subst hr;clear ak
     repeat' first|simp only[go_sem, *]|apply bc<;>intro D
     refine(G _).mono ?_;rintro r h3 ⟨m,hr⟩;subst m;have hr:=L r hr;subst hr;clear G a6 L;cases hz:szd M with
     |none=>
      rw[hz]at j f;simp only at j;have m:=p _ K;rw[<-j]at m;simp only[Vc]at m f;clear p j z a8
      repeat' first|simp only[go_sem, *]|apply bc<;>intro D|refine zE.use (f _) ?_
     |some M'=>
      obtain⟨rfl,a3⟩:=XP hz;rw[hz]at j f;simp only at j;simp only[Vc]at f;have B:MInv c k l R g (i+1) M' (.sl 1 (qe (M'.map mkA)) .no) h3:=⟨K,j,λq=>absurd q v,λ_=>.inr ⟨a8,rfl,a3⟩,λt V=>by rw[s1];exact z.ts t V,ow⟩;clear p j z
      repeat' first|simp only[go_sem, *]|apply bc<;>intro D|refine zE.use (f _) ?_
      exact⟨_,_,rfl,B⟩
 .rintro fr h ec ⟨out,o,f2,f3,b1,b2,b3,f6,⟨hE,j,T,s,w,ad⟩⟩
  have b5:l.drop l.length= []:=mI;rw[b5,bJ]at j;obtain⟨X,b9⟩:=N out j.symm;have bs:yg 1 (qe (out.map mkA)) o:=by
   by_cases v:k=3
   .exact(T v).isSl
   .rcases s v with⟨q,_⟩ | ⟨_,q,_⟩
    .omega
    .rw[q];exact yg.mk .no
  have G:=Xq bs (by simpa using X.ne) (by rw[zH];omega) (Tq X.ts ow);rw[Ao]at G;have L:=λr hr=>HB X.min.ne (r:=r) hr;have au:(wv out).length<=1048576:=zY (fR _) ow;have f:=NN au;rw[YB]at f;have m:=p _ hE;rw[<-j]at m;simp only at m;clear p N T s w X bs F z a2 j;generalize wv out=M at *
  repeat' first|simp only[go_sem, *]|apply bc<;>intro D
  refine(G _).mono ?_;rintro r h3 ⟨b7,hr⟩;subst b7;have hr:=L r hr;subst hr;clear G L;cases hz:szd M with
  |none=>
   rw[hz]at f m;simp only[Vc]at m f
   repeat' first|simp only[go_sem, *]|apply bc<;>intro D|refine zE.use (f _) ?_
  |some M'=>
   rw[hz]at f m;simp only[Vc]at m f
   repeat' first|simp only[go_sem, *]|apply bc<;>intro D|refine zE.use (f _) ?_
def ofD(c:Cat)(e:Ex):D:=if(nO c e==0)=true then cF c e else .tuple [.nilsl,.int .i64 (nO c e)]
def zAM(i:uL c d)(o:c.Sm)(k:e.Ok)(m:e.size<=1048576)(g:Heap):
  zE prog 149 [d,.agg e.cells] g λr h'=>h'=g/\r=ofD c e:=by
 have b:=Xp i o k m;have j:=λ(h:nO c e=0)=>IT i o e.size e (zD _) (M5 h).2.1 (M5 h).2.2 k;obtain⟨ca,cb,ce,cp,rfl,_,_,_,_⟩:=i;refine xP λQ p=> ?_;have f:=p (ofD c e) g ⟨rfl,rfl⟩;unfold ofD at f;simp only[Ex.cells]at b j⊢;refine zo zG5 ?_;simp only[f149,zA];cases q:(nO c e==0)with
 |false=>
  rw[iq (by rw[q];exact zV)]at f
  repeat' first|simp only[go_sem, *]|apply bc<;>intro i|refine zE.use (b _) ?_
 |true=>
  rw[ip q]at f;have a:=j (by simpa using q);unfold cF at f a;cases n:aT c e with
  |none=>
   rw[n]at f a;simp only[Vc]at f a
   repeat' first|simp only[go_sem, *]|apply bc<;>intro i|refine zE.use (b _) ?_|refine zE.use (a _) ?_
  |some l=>
   rw[n]at f a;simp only[Vc]at f a
   repeat' first|simp only[go_sem, *]|apply bc<;>intro i|refine zE.use (b _) ?_|refine zE.use (a _) ?_
def Py(l:List (List Trm)):D:=.sl 1 (qe (l.map mkA)) .no
def Vp(l:List (List (List Trm))):List (List D):=l.map λa=>[Py a]
def mz(l:List (List (List Trm))):(Vp l).length=l.length:=zH ..
def Fk{l:List (List (List Trm))}(h:i<l.length):(Vp l)[i]? =some [Py l[i]]:=by simp[Vp,h]
def Fm(l:List (List (List Trm))):∀x∈Vp l,x.length=1:=λx a=>by
 obtain⟨s,_,rfl⟩:=zN.1 a;rfl
def Kf(l:List (List (List Trm))):∀x∈Vp l,wl x:=λx b=>by
 obtain⟨s,_,rfl⟩:=zN.1 b;obtain⟨h1,a⟩:=Uk s;exact⟨rfl,by simp only[qM];exact⟨a,trivial⟩,by simp only[qW,Py];rw[h1]⟩
def jt{l:List (List (List Trm))}(a:yg 1 (Vp l) d)(h:Heap):o5 prog 98 d h=some (.int .i64 l.length):=by rw[wL a underlying98,mz]
def U8{l:List (List (List Trm))}(a:yg 1 (Vp l) d)(b:i<l.length):yj prog 98 d (.int .i64 (i:Int))=some (.iptr [Py l[i]] 0):=yW a dU ax (Fk b)
def lJ(c:Cat)(e:Ex):Int:=if(nO c e==0)=true then(match aT c e with
 |some _=>0
 |none=>10)else nO c e
def ofL(c:Cat)(e:Ex):List (List Trm):=(aT c e).getD []
abbrev zKZ:=List (List (List Trm)) ×List (List UInt8) ×Int
def cj(c:Cat):List Fac->List (List (List Trm))->List (List UInt8)->zKZ
 | [],t,o=>(t,o,0)
 |f::fs,t,o=>if(f.kind==1)=true then(if(lJ c f.e==0)=true then cj c fs (t++ [ofL c f.e]) o else([],[],lJ c f.e))
  else if(f.kind==2)=true then cj c fs t (if(o.any (· ==f.out))=true then o else o++ [f.out])else cj c fs t o
def yV(c:Cat)(l:List Fac):zKZ:=if(!((wj c l).2==0))=true then([],[],(wj c l).2)else cj c l [] []
def zGl(h:(lJ c e==0)=true):ofD c e=.tuple [Py (ofL c e),.int .i64 0]:=by
 unfold lJ at h;unfold ofD ofL cF;split at h
 .rename_i q
  rw[ip q];split at h
  .rename_i l a;rw[a];rfl
  .exact absurd h jD
 .rename_i q;exact absurd h q
def zBs(h:(lJ c e==0)=false):ofD c e=.tuple [.nilsl,.int .i64 (lJ c e)]:=by
 unfold lJ at h⊢;unfold ofD cF;split at h
 .rename_i q
  rw[ip q,ip q];split at h
  .exact absurd h jD
  .rename_i a;rw[a];rfl
 .rename_i q;rw[iq q,iq q]
def zB3(a:List (List Trm))(nid:Nat)(h:Heap):yA prog false nid 98 1 [(0,Py a)] h=some (.sl 1 [[Py a]] .full,h):=
 qD (P:=prog) (x:=Py a) dU KU ax rfl rfl ow ow rfl rfl
structure ValI(c:Cat)(l:List Fac)(R:zKZ)(g:Heap)(i:Nat)(t:List (List (List Trm)))(o:List (List UInt8))(td od:D)(h:Heap):Prop where
 own:Own2 g h 1 (Vp t) td 1 (wh o) od
 eq:cj c (l.drop i) t o=R
 tl:t.length<=i
 ol:o.length<=i
theorem TL(q:uL c d)(hs:c.Sm){l:List Fac}(X:yg 12 (nu l) x)(hl:l.length<=1048576)(w:∀f∈l,f.Ok)(g:Heap):
  zE prog 87 [d,x] g λr h'=>h'=g/\∃td od,r=.tuple [td,od,.int .i64 (yV c l).2.2]/\Fin 1 (Vp (yV c l).1) td/\Fin 1 (wh (yV c l).2.1) od:=by
 have z:=P0 q hs X hl w;have T:=λf (hf:f∈l)=>zAM q hs (w f hf).e (w f hf).es;have Z:=pp X;have ag:=bd;obtain⟨ca,cb,ce,cp,rfl,_,_,_,_⟩:=q;refine xU kr λad=>xS ?_;refine xP λQ I=> ?_;have P:=Own2.start (Ext.refl g) 1 1;refine zo zPV ?_;simp only[f87,zA];cases q1:((wj c l).2==0)with
 |false=>
  have C:yV c l=([],[],(wj c l).2):=by unfold yV;rw[q1];rfl
  have y:=I (.tuple [.nilsl,.nilsl,.int .i64 (wj c l).2]) g ⟨Ext.refl g,by simp[qC,qW,below,qM],.nilsl,.nilsl,by rw[C];rfl,.inl ⟨rfl,by rw[C];rfl⟩,.inl ⟨rfl,by rw[C];rfl⟩⟩
  repeat' first|simp only[go_sem, *]|apply bc<;>intro q|refine zE.use (z _) ?_
 |true=>
 have C:yV c l=cj c l [] []:=by unfold yV;rw[q1];rfl
 obtain⟨R,Y⟩:∃R,cj c l [] []=R:=⟨_,rfl⟩;rw[C,Y]at I
 repeat' first|simp only[go_sem, *]|apply bc<;>intro q|(refine zE.mono (z _) ?_;rintro r h ⟨y,rfl⟩)
 refine zZ (λi fr h=>∃t o td od,fr 2=.iptr [ca,cb,ce,cp] 0/\fr 24=x/\fr 25=.int .i64 (l.length:Int)/\fr 26=.int .i64 (i:Int)/\fr 9=td/\fr 10=od/\ValI c l R g i t o td od h) l.length ow ?_ ?_ ?_
 .have h0:ValI c l R g 0 [] [] .nilsl .nilsl g:=⟨P,Y,zD _,zD _⟩
  simp only[go_sem,zQ,zT,zG];exact⟨_,_,_,_,rfl,rfl,h0⟩
 .clear z
  rintro i fr u v ec ew ⟨t,o,td,od,f2,M,N,O,f9,L,⟨n,m,W,U⟩⟩;have a1:=tZ X v;have S:=w _ (zI v);have s:=T _ (zI v);have V:=Ui S u u.next;rw[z8 v,cj]at m;have G:(u.new u.next (.row l[i].cells)).at' u.next=some (.row l[i].cells):=z5 _ _ _;have j:=n.ext ((Ext.refl u).new (zD _) (.row l[i].cells));have p:=λ(h:Heap)=>jb n.b.isSl (by omega:o.length<=1048576) l[i].out h;generalize l[i]=f at *
  simp only[Fac.cells,Ex.cells]at a1 V G j s;generalize hH:u.new u.next (.row [.int .i64 f.kind,.str f.comp,.str f.out,.int .i64 f.rel,.int .i64 f.way,.int .i64 f.duty,.bool f.chg,.int .i64 f.e.kind,.str f.e.name,.str f.e.exc,f.e.d,f.d])=H at *
  have ai:yQ true 4 [.int .i64 f.kind,.str f.comp,.str f.out,.int .i64 f.rel,.int .i64 f.way,.int .i64 f.duty,.bool f.chg,.int .i64 f.e.kind,.str f.e.name,.str f.e.exc,f.e.d,f.d] 7=some (.agg [.int .i64 f.e.kind,.str f.e.name,.str f.e.exc,f.e.d]):=rfl;cases q2:(f.kind==1)with
  |true=>
   rw[ip q2]at m;cases B:(lJ c f.e==0)with
   |true=>
    rw[ip B]at m;rw[zGl B]at s;have F:=zB3 (ofL c f.e)
    repeat' first|simp only[go_sem, *]|apply bc<;>intro q|(refine zE.mono (s _) ?_;rintro r h ⟨y,rfl⟩)
    subst y;refine j.appH (zs:=Vp [ofL c f.e]) dU FO ax ow (Fm _) (by simp[Vp]) (by rw[mz,mz,Rs];unfold lim;simp;omega) (by rw[mz,mz];unfold lim;simp;omega) λK h' A=> ?_;have k:ValI c l R g (i+1) (t++ [ofL c f.e]) o K od h':=⟨by
     have:Vp (t++ [ofL c f.e])=Vp t++Vp [ofL c f.e]:=by simp[Vp]
     rw[this];exact A,m,jO,ow⟩
    repeat' first|simp only[go_sem, *]|apply bc<;>intro q
    exact⟨_,_,_,_,rfl,rfl,k⟩
   |false=>
    rw[iq (by rw[B];exact zV)]at m;rw[zBs B]at s;have y:=I (.tuple [.nilsl,.nilsl,.int .i64 (lJ c f.e)]) H ⟨j.a.1,by simp[qC,qW,below,qM],.nilsl,.nilsl,by rw[<-m];rfl,.inl ⟨rfl,by rw[<-m];rfl⟩,.inl ⟨rfl,by rw[<-m];rfl⟩⟩
    repeat' first|simp only[go_sem, *]|apply bc<;>intro q|refine zE.use (s _) ?_
  |false=>
   rw[iq (by rw[q2];exact zV)]at m;cases B:(f.kind==2)with
   |true=>
    rw[ip B]at m;cases J:(o.any (· ==f.out))with
    |true=>
     rw[ip J]at m;rw[J]at p;have k:ValI c l R g (i+1) t o td od H:=⟨j,m,ow,ow⟩
     repeat' first|simp only[go_sem, *]|apply bc<;>intro q|(refine zE.mono (p _) ?_;rintro r h ⟨y,rfl⟩)
     subst y;exact⟨_,_,_,_,rfl,rfl,k⟩
    |false=>
     rw[iq (by rw[J];exact zV)]at m;rw[J]at p;have F:=fS f.out
     repeat' first|simp only[go_sem, *]|apply bc<;>intro q|(refine zE.mono (p _) ?_;rintro r h ⟨y,rfl⟩)
     subst y;refine j.swap.appH (zs:=wh [f.out]) uI ZR p9 ow RL (by simp[wh]) (by rw[qv,oo];unfold lim;simp[wh];omega) (by rw[qv];unfold lim;simp[wh];omega) λK h' A=> ?_;have k:ValI c l R g (i+1) t (o++ [f.out]) td K h':=⟨by
      have:wh (o++ [f.out])=wh o++wh [f.out]:=by simp[wh]
      rw[this];exact A.swap,m,ow,jO⟩
     repeat' first|simp only[go_sem, *]|apply bc<;>intro q
     exact⟨_,_,_,_,rfl,rfl,k⟩
   |false=>
    rw[iq (by rw[B];exact zV)]at m;have k:ValI c l R g (i+1) t o td od H:=⟨j,m,ow,ow⟩
    repeat' first|simp only[go_sem, *]|apply bc<;>intro q
    exact⟨_,_,_,_,rfl,rfl,k⟩
 .rintro fr u ec ⟨t,o,td,od,f2,M,N,O,f9,L,⟨n,m,W,U⟩⟩
  rw[mI,cj]at m;have D:=n.a.2.1.fin (Kf t);have E:=n.b.2.1.fin (uh (l:=o));have y:=I (.tuple [td,od,.int .i64 0]) u ⟨n.a.1,by
   simp only[qC,qW,below,qM];exact⟨yw (yD _) _ D.1,yw (yD _) _ E.1,trivial,trivial⟩,qC td,qC od,by rw[<-m];rfl,by rw[<-m];exact D.2,by rw[<-m];exact E.2⟩
  exact au
def QZ(a b:List Trm):Bool:=Yc yu a b==0
def ly(a b:List Trm):QZ a b=true↔a=b:=by
 unfold QZ;constructor
 .intro h;exact Tc bw _ _ (by simpa using h)
 .rintro rfl;simp[jK.list.refl]
def zBf(a b:Nat):((a:Int)==(b:Int))=(a==b):=by
 by_cases h:a=b
 .simp[h]
 .rw[yf.2 h,yf.2 ow]
def Gs(x y:Trm)(c:Bool):jR prog .neq 197 c (.agg [.str x.a,.str x.b]) (.agg [.str y.a,.str y.b])=some (.bool (!(yu x y==0))):=by
 have d:eqT prog 197=some [.s,.s]:=kr;rw[dP];simp only[jR,d,Ji,eqK,qt,pF,nD]
def F7{a b:List Trm}(B:yg 2 (wp a) x)(C:yg 2 (wp b) y)(K:a.length<=1048576)(g:Heap):
  zE prog 126 [x,y] g λr h'=>h'=g/\r=.bool (QZ a b):=by
 have L:=ua B;have M:=ua C;refine xP λQ s=> ?_;have j:=s _ _ ⟨rfl,rfl⟩;clear s;refine zo zGy ?_;simp only[f126,zA];cases q:((a.length:Int)==(b.length:Int))with
 |false=>
  have p:QZ a b=false:=by
   cases h:QZ a b with
   |false=>rfl
   |true=>rw[(ly _ _).1 h]at q;simp at q
  rw[p]at j;simp only[go_sem, *]
 |true=>
 have o:a.length<=b.length/\b.length<=a.length:=by have:=yB q;omega
 obtain⟨t,w⟩:=o;simp only[go_sem, *];refine zZ (λi fr h=>fr 0=x/\fr 1=y/\fr 12=.int .i64 (a.length:Int)/\fr 13=.int .i64 (i:Int)/\h=g/\a.take i=b.take i) a.length ow ?_ ?_ ?_
 .simp only[go_sem,zQ,zT,zG]
  rfl
 .rintro i fr h f F J ⟨G,H,l,m,rfl,d⟩
  have c:i<b.length:=ow;have D:=og B f;have E:=og C c;have z:=Gs a[i] b[i];have h1:∀(e:(yu a[i] b[i]==0)=true),a.take (i+1)=b.take (i+1):=λe=>by
   have I:=bw a[i] b[i] (by simpa using e);rw[zM f,zM c,d,I]
  have n:∀(e:(yu a[i] b[i]==0)=false),QZ a b=false:=λe=>by
   cases h:QZ a b with
   |false=>rfl
   |true=>
    have:=(ly _ _).1 h;subst this;rw[jK.refl]at e;exact absurd e jD
  generalize a[i]=u at *
  generalize b[i]=v at *
  simp only[Trm.cells]at D E;cases k:(yu u v==0)with
  |true=>
   have A:=h1 k;rw[k]at z;clear h1 n d j;simp only[go_sem, *];refine yF kr ?_;simp only[go_sem, *]
  |false=>
   rw[n k]at j;rw[k]at z;clear h1 n d;simp only[go_sem, *];refine yF kr ?_;exact au
 .rintro fr h F ⟨G,H,l,m,rfl,d⟩
  have:a=b:=by
   rw[zt,show a.length=b.length by omega,zt]at d;exact d
  rw[(ly _ _).2 this]at j;clear d this;exact au
def zK1{a b:List Trm}(e:yg 2 (wp a) x)(f:yg 2 (wp b) y)(d:a.length<=1048576)(h:g.at' id=some (.row [x])):
  zE prog 125 [y,.ptr id 0] g λr h'=>h'=g/\r=.bool (QZ a b):=by
 have c:=F7 e f d;refine zo zGx ?_;simp only[f125,zA]
 repeat' first|simp only[go_sem, *]|apply bc<;>intro c|refine zE.use (c _) ?_
def R5{l:List Lic}(n:yg 4 (gU l) d)(C:l.length<=1048576){p:Lic->Bool}(z:∀s∈l,zE prog f ([]++ [.agg s.cells]++cap) g λr h'=>h'=g/\r=.bool (p s)):
  zE prog 191 [d,.fn (.func f) [] cap] g λr h'=>h'=g/\r=.int .i64 (Y7 p l):=by
 have o:=rV n;refine zo zHN ?_;simp only[f191,zA]
 repeat' first|simp only[go_sem, *]|apply bc<;>intro m
 refine zZ (λi fr h=>fr 1=.fn (.func f) [] cap/\fr 0=d/\fr 6=d/\fr 7=.int .i64 (l.length:Int)/\fr 8=.int .i64 (i:Int)/\h=g/\∀j (b:j<l.length),j<i->p l[j]=false) l.length ow ?_ ?_ ?_
 .simp only[go_sem,zQ,zT,zG]
  exact λj b h0=>by omega
 .rintro i fr h a e1 B ⟨u,t,v,w,x,rfl,b⟩
  have q:=p0 n a;have e:=z _ (zI a);simp only[yL,zq,Lic.cells]at e;simp only[Lic.cells]at q;cases k:p l[i]with
  |true=>
   have A:=kL a b k;rw[k]at e
   repeat' first|simp only[go_sem, *]|apply bc<;>intro m|refine zE.use e ?_
  |false=>
   have y:=uq (p:=p) a b k;rw[k]at e
   repeat' first|simp only[go_sem, *]|apply bc<;>intro m|refine zE.use e ?_
   exact y
 .rintro fr h e1 ⟨u,t,v,w,x,rfl,b⟩
  have A:=kM (p:=p) λj c=>b j c c;exact au
def Xj{l:List Lic}(b:yg 4 (gU l) d)(e:l.length<=1048576){p:Lic->Bool}(h:∀s∈l,zE prog f ([]++ [.agg s.cells]++cap) g λr h'=>h'=g/\r=.bool (p s)):
  zE prog 127 [d,.fn (.func f) [] cap] g λr h'=>h'=g/\r=.bool (l.any p):=by
 have a:=R5 b e h;have c:=fJ (l:=l) (p:=p);refine zo zGz ?_;simp only[f127,zA]
 repeat' first|simp only[go_sem, *]|apply bc<;>intro i|refine zE.use a ?_
def zK2(x:Lic)(s:List UInt8)(a:g.at' id=some (.row [.str s])):
  zE prog 128 [.agg x.cells,.ptr id 0] g λr h'=>h'=g/\r=.bool (x.name==s):=by
 refine zo zG0 ?_;simp only[f128,zA];simp only[Lic.cells];exact au
structure Cho where
 ts:List Alt
 own:List (List UInt8)
structure Alt.Sm(a:Alt):Prop where
 sl:yg 2 (wp a.ts) a.d
 len:a.ts.length<=1048576
def Pu(y:Cho)(d:D):Prop:=∃a b,d=.agg [a,b]/\yg 1 (qe y.ts) a/\yg 1 (wh y.own) b
structure Cho.Sm(y:Cho):Prop where
 tl:y.ts.length<=1048576
 ol:y.own.length<=1048576
 ts:∀a∈y.ts,a.Sm
def mN(v:List (List (List Trm)))(ts:List Alt)(p:Bool)(i:Nat):Int:=match ts[i]? with
 |none=>0
 |some a=>if(p&&((a.ts.length:Int)==0))=true then 0 else if(!((v.getD i []).any λb=>QZ a.ts b))=true then 1 else 0
def Ps(c:Cat)(own:List (List UInt8))(p:Bool)(i:Nat):Int:=match own[i]? with
 |none=>0
 |some s=>if(p&&(s== []))=true then 0 else if(!(c.ls.any λx=>x.name==s))=true then 7 else 0
def qP(c:Cat)(l:List Fac)(y:Cho)(p:Bool):Int:=
 if(!((yV c l).2.2==0))=true then(yV c l).2.2
 else if(!((y.ts.length:Int)==((yV c l).1.length:Int))|| !((y.own.length:Int)==((yV c l).2.1.length:Int)))=true then 9
 else if(!(gI (mN (yV c l).1 y.ts p) y.ts.length==0))=true then gI (mN (yV c l).1 y.ts p) y.ts.length
 else gI (Ps c y.own p) y.own.length
theorem zGm(h:(lJ c e==0)=true):(ofL c e).length<=64/\AltsOk 64 (ofL c e):=by
 unfold lJ at h;unfold ofL;split at h
 .rename_i q
  obtain⟨_,b,h3⟩:=M5 (show nO c e=0 by simpa using q);split at h
  .rename_i l a
   have:=(Np (c:=c) e.size).1 e (zD _) h3 l a;rw[a];exact⟨this.1,this.2.mono b⟩
  .grind
 .grind
theorem RQ:∀{l:List Fac}{t:List (List (List Trm))}{o:List (List UInt8)},(∀a∈t,a.length<=64/\AltsOk 64 a)->∀a∈(cj c l t o).1,a.length<=64/\AltsOk 64 a
 | [],t,o,h=>by rw[cj];exact h
 |f::fs,t,o,h=>by
  rw[cj];split
  .split
   .rename_i q
    exact RQ λa b=>by grind [zGm]
   .intro a b;cases b
  .split
   .exact RQ h
   .exact RQ h
def rz{l:List Fac} :∀a∈(yV c l).1,a.length<=64/\AltsOk 64 a:=by grind [yV,RQ]
theorem TD(C:uL c d)(hs:c.Sm){l:List Fac}(hx:yg 12 (nu l) x)(hl:l.length<=1048576)(a5:∀f∈l,f.Ok){y:Cho}(hy:Pu y z)(a8:y.Sm)(p:Bool)(g:Heap):
  zE prog 74 [d,x,z,.bool p] g λr h'=>h'=g/\r=.int .i64 (qP c l y p):=by
 have V:=TL C hs hx hl a5;have bb:=C;obtain⟨ca,cb,ce,cp,rfl,a3,_,_,_⟩:=C;obtain⟨ya,yb,rfl,P,hb⟩:=hy;obtain⟨y1,y2,y3⟩:=a8;have bo:=tA P;have bs:=wU hb;refine xU kr λa9=> ?_;refine xP λQ hQ=> ?_;obtain⟨E,w⟩:∃E,qP c l y p=E:=⟨_,rfl⟩;have m:∀h',Ext g h'->Q (.int .i64 E) h':=λh' I=>hQ _ _ ⟨I,trivial,by rw[w]⟩;clear hQ;unfold qP at w;refine zo zPR ?_;simp only[f74,zA]
 repeat' first|simp only[go_sem, *]|apply bc<;>intro C
 refine(V _).mono ?_;rintro r h ⟨B,td,od,rfl,J,M⟩;subst B;clear V;have X:=Ext.refl h;have J:yg 1 (Vp (yV c l).1) td:=J.isSl;have M:yg 1 (wh (yV c l).2.1) od:=M.isSl;have a4:=jt J;have bk:=wU M;have a7:∀a∈(yV c l).1,a.length<=1048576:=λa P=>zY (rz a P).1 ow;cases q1:((yV c l).2.2==0)with
 |false=>
  rw[ip (by rw[q1];rfl)]at w;have B:=m h X;rw[<-w]at B;clear m w
  repeat' first|simp only[go_sem, *]|apply bc<;>intro C
 |true=>
 rw[iq (by rw[q1];decide)]at w;generalize yV c l=v at *
 cases R:((y.ts.length:Int)==(v.1.length:Int))with
 |false=>
  rw[ip (by rw[R];rfl)]at w;have B:=m h X;rw[<-w]at B;clear m w
  repeat' first|simp only[go_sem, *]|apply bc<;>intro C
 |true=>
 cases q3:((y.own.length:Int)==(v.2.1.length:Int))with
 |false=>
  rw[ip (by rw[R,q3];rfl)]at w;have B:=m h X;rw[<-w]at B;clear m w
  repeat' first|simp only[go_sem, *]|apply bc<;>intro C
 |true=>
 rw[iq (by rw[R,q3];decide)]at w;have T:y.ts.length<=v.1.length:=by have:=yB R;omega
 obtain⟨F,S⟩:∃F,gI (mN v.1 y.ts p) y.ts.length=F:=⟨_,rfl⟩;rw[S]at w
 repeat' first|simp only[go_sem, *]|apply bc<;>intro C
 clear q1;refine zZ (λi fr u=>fr 3=.bool p/\fr 4=.iptr [ca,cb,ce,cp] 0/\fr 6=.iptr [ya,yb] 0/\fr 9=td/\fr 41=ya/\fr 42=.int .i64 (y.ts.length:Int)/\fr 43=.int .i64 (i:Int)/\Ext h u/\∀j,j<i->mN v.1 y.ts p j=0) y.ts.length ow ?_ ?_ ?_
 .have h0:∀j,j<0->mN v.1 y.ts p j=0:=λj D=>absurd D (ym _)
  simp only[go_sem,zQ,zT,zG];exact⟨X,h0⟩
 .rintro i fr u G ec ew ⟨Y,Z,f6,f9,ad,ag,ai,I,D⟩
  have a1:=oc P G;have a2:=U8 J (show i<v.1.length by omega);have sm:=y3 _ (zI G);have k:mN v.1 y.ts p i=if(p&&((y.ts[i].ts.length:Int)==0))=true then 0 else if(!(v.1[i].any λb=>QZ y.ts[i].ts b))=true then 1 else 0:=by
   unfold mN;rw[zB G];simp only;rw[zC,zB ow];rfl
  have q:=λ(e:mN v.1 y.ts p i=0)=>pd (f:=mN v.1 y.ts p) D e;have o:=λ(e:mN v.1 y.ts p i≠0)=>jr (f:=mN v.1 y.ts p) G D e;rw[S]at o;have N:(u.new u.next (.row [y.ts[i].d])).at' u.next=some (.row [y.ts[i].d]):=z5 _ _ _;have K:=I.new I.1 (.row [y.ts[i].d]);have n:=fC (l:=v.1[i].map mkA) (d:=Py v.1[i]) (yg.mk .no) (by rw[zH];exact a7 _ (zI _)) (f:=125) (cap:=[.ptr u.next 0]) (p:=λb=>QZ y.ts[i].ts b.ts) (g:=u.new u.next (.row [y.ts[i].d])) (λs hs=>by
   obtain⟨t,ht,rfl⟩:=zN.1 hs;exact⟨yg.mk .no,zK1 sm.sl (yg.mk .no) sm.len N⟩)
  have O:(v.1[i].map mkA).any (λb=>QZ y.ts[i].ts b.ts)=v.1[i].any λb=>QZ y.ts[i].ts b:=by rw[YI];rfl
  rw[O]at n;clear O;obtain⟨k1,k2,k3⟩:=zp sm.sl;have bx:=ua sm.sl;generalize y.ts[i]=a at *
  generalize v.1[i]=b at *
  have a6:yR prog 195 (.ptr u.next 0) a.d (u.new u.next (.row [.nilsl]))=some (u.new u.next (.row [a.d])):=by
   rw[yM (off:=0) (z5 _ _ _) uZ jS k1 k3,bK];rfl
  have ba:(Py b).notTuple=true:=rfl;generalize u.new u.next (.row [a.d])=H at *
  clear D S P hb J M y3 sm R q3;cases U:p with
  |true=>
   subst U;cases W:((a.ts.length:Int)==0)with
   |true=>
    have L:=q (by rw[k,W];rfl);clear q o k n m w
    repeat' first|simp only[go_sem, *]|apply bc<;>intro C
    exact L
   |false=>
    rw[iq (by rw[W];decide)]at k;cases A:(b.any λt=>QZ a.ts t)with
    |true=>
     have L:=q (by rw[k,A];rfl);rw[A]at n;clear q o k m w
     repeat' first|simp only[go_sem, *]|apply bc<;>intro C|(refine zE.mono n ?_;rintro r h ⟨B,rfl⟩)
     subst B;exact L
    |false=>
     have h1:F=1:=by rw[o (by rw[k,A];decide),k,A];rfl
     subst h1;rw[ip jD]at w;have B:=m H K;rw[<-w]at B;rw[A]at n;clear q o k m w
     repeat' first|simp only[go_sem, *]|apply bc<;>intro C|refine zE.use n ?_
  |false=>
   subst U;rw[iq (by rw[wR];decide)]at k;cases A:(b.any λt=>QZ a.ts t)with
   |true=>
    have L:=q (by rw[k,A];rfl);rw[A]at n;clear q o k m w
    repeat' first|simp only[go_sem, *]|apply bc<;>intro C|(refine zE.mono n ?_;rintro r h ⟨B,rfl⟩)
    subst B;exact L
   |false=>
    have h1:F=1:=by rw[o (by rw[k,A];decide),k,A];rfl
    subst h1;rw[ip jD]at w;have B:=m H K;rw[<-w]at B;rw[A]at n;clear q o k m w
    repeat' first|simp only[go_sem, *]|apply bc<;>intro C|refine zE.use n ?_
 .rintro fr u ec ⟨Y,Z,f6,f9,ad,ag,ai,I,D⟩
  have a0:F=0:=by rw[<-S];exact tg D
  subst a0;rw[iq jD]at w;clear S D J a4 T R q3
  repeat' first|simp only[go_sem, *]|apply bc<;>intro C
  refine zZ (λi fr u=>fr 3=.bool p/\fr 4=.iptr [ca,cb,ce,cp] 0/\fr 63=yb/\fr 64=.int .i64 (y.own.length:Int)/\fr 65=.int .i64 (i:Int)/\Ext h u/\∀j,j<i->Ps c y.own p j=0) y.own.length ow ?_ ?_ ?_
  .have h0:∀j,j<0->Ps c y.own p j=0:=λj D=>absurd D (ym _)
   simp only[go_sem,zQ,zT,zG];exact⟨Y,Z,I,h0⟩
  .clear I
   rintro i fr u G ec ew ⟨Y,Z,aj,f64,ak,I,D⟩;have a1:=sw hb G;have k:Ps c y.own p i=if(p&&(y.own[i]== []))=true then 0 else if(!(c.ls.any λx=>x.name==y.own[i]))=true then 7 else 0:=by
    unfold Ps;rw[zB G]
   have q:=λ(e:Ps c y.own p i=0)=>pd (f:=Ps c y.own p) D e;have o:=λ(e:Ps c y.own p i≠0)=>jr (f:=Ps c y.own p) G D e;rw[w]at o;generalize y.own[i]=s at *
   have N:(u.new u.next (.row [.str s])).at' u.next=some (.row [.str s]):=z5 _ _ _;have K:=I.new I.1 (.row [.str s]);have n:=Xj a3 hs.ls.1 (f:=128) (cap:=[.ptr u.next 0]) (p:=λx=>x.name==s) (g:=u.new u.next (.row [.str s])) (λx _=>zK2 x s N);have a6:yR prog 9 (.ptr u.next 0) (.str s) (u.new u.next (.row [.str []]))=some (u.new u.next (.row [.str s])):=by
    rw[yM (off:=0) (z5 _ _ _) p9 jS rfl rfl,bK];rfl
   generalize u.new u.next (.row [.str s])=H at *
   clear D w P hb M y3;cases U:p with
   |true=>
    subst U;cases W:(s== [])with
    |true=>
     have L:=q (by rw[k,W];rfl);clear q o k n m
     repeat' first|simp only[go_sem, *]|apply bc<;>intro C
     exact L
    |false=>
     rw[iq (by rw[W];decide)]at k;cases A:(c.ls.any λx=>x.name==s)with
     |true=>
      have L:=q (by rw[k,A];rfl);rw[A]at n;clear q o k m
      repeat' first|simp only[go_sem, *]|apply bc<;>intro C|(refine zE.mono n ?_;rintro r h ⟨B,rfl⟩)
      subst B;exact L
     |false=>
      have h1:E=7:=by rw[o (by rw[k,A];decide),k,A];rfl
      subst h1;have B:=m H K;rw[A]at n;clear q o k m
      repeat' first|simp only[go_sem, *]|apply bc<;>intro C|refine zE.use n ?_
   |false=>
    subst U;rw[iq (by rw[wR];decide)]at k;cases A:(c.ls.any λx=>x.name==s)with
    |true=>
     have L:=q (by rw[k,A];rfl);rw[A]at n;clear q o k m
     repeat' first|simp only[go_sem, *]|apply bc<;>intro C|(refine zE.mono n ?_;rintro r h ⟨B,rfl⟩)
     subst B;exact L
    |false=>
     have h1:E=7:=by rw[o (by rw[k,A];decide),k,A];rfl
     subst h1;have B:=m H K;rw[A]at n;clear q o k m
     repeat' first|simp only[go_sem, *]|apply bc<;>intro C|refine zE.use n ?_
  .clear I
   rintro fr u ec ⟨Y,Z,aj,f64,ak,I,D⟩;have h1:E=0:=by rw[<-w];exact tg D
   subst h1;have B:=m u I;clear D m w;exact au
def Qn(l:List Int):∀x∈wC l,x.length=1:=λx a=>by
 obtain⟨s,_,rfl⟩:=zN.1 a;rfl
def WC(l:List Int):∀x∈wC l,wl x:=λx a=>by
 obtain⟨s,_,rfl⟩:=zN.1 a;exact⟨rfl,by simp[qM,below],rfl⟩
def Lg(n:Int)(nid:Nat)(h:Heap):yA prog false nid 30 1 [(0,.int .i64 n)] h=some (.sl 1 [[.int .i64 n]] .full,h):=
 qD (P:=prog) (x:=.int .i64 n) qS s8 uz rfl rfl ow ow rfl rfl
def Ka(c:Cat)(t:List (List (List Trm)))(o:List (List UInt8))(cs:List D):Prop:=∃td od a b e p,cs= [td,od,a,b,e,p]/\yg 1 (Vp t) td/\yg 1 (wh o) od/\uL c (.agg [a,b,e,p])
def Vb(c:Cat)(t:List (List (List Trm)))(o:List (List UInt8)):List Nat:=t.map List.length++o.map λ_=>c.ls.length
def Zr(l:List Nat):List Int:=l.map λ(n:Nat)=>(n:Int)
def Qm(l:List Int)(n:Int):wC (l++ [n])=wC l++wC [n]:=by simp[wC]
def A7(a b c d e f:D):yQ true 6 [a,b,c,d,e,f] 0=some (.agg [a,b,c,d,e,f]):=zJ rfl ow
def Ib{t:List (List (List Trm))}{o:List (List UInt8)}(S:Ka c t o cs)(hs:c.Sm)(V:t.length<=1048576)(U:o.length<=1048576)(g:Heap):
  zE prog 97 [.agg cs] g λr h'=>h'=g/\Fin 1 (wC (Zr (Vb c t o))) r:=by
 obtain⟨td,od,a,b,e,p,rfl,B,I,R⟩:=S;obtain⟨_,_,_,_,H,v,_,_,_⟩:=R;cases H;have l1:=jt B;have l2:=wU I;have l3:=rV v;have K:=λ(x:List (List Trm)) (h:Heap)=>tA (l:=x.map mkA) (d:=Py x) (yg.mk .no) h;have W:∀(x:List (List Trm))(h:Heap),o5 prog 44 (Py x) h=some (.int .i64 (x.length:Int)):=λx h=>by have:=K x h;rwa [zH]at this
 clear K;refine xU kr λJ=>xS ?_;refine xP λQ A=> ?_;have G:=Own.start (Ext.refl g) 1;refine zo zPc ?_;simp only[f97,zA];simp only[go_sem, *];refine zZ (λi fr h=>∃s,fr 1=.iptr [td,od,a,b,e,p] 0/\fr 7=td/\fr 8=.int .i64 (t.length:Int)/\fr 9=.int .i64 (i:Int)/\fr 3=s/\Own g h 1 (wC (Zr ((t.take i).map List.length))) s) t.length ow ?_ ?_ ?_
 .simp only[go_sem,zQ,zT,zG]
  exact⟨_,rfl,G⟩
 .rintro i fr h q C M ⟨s,y,N,O,P,z,f⟩
  have X:=U8 B q;have Y:=W t[i];have n:Zr ((t.take (i+1)).map List.length)=Zr ((t.take i).map List.length)++ [(t[i].length:Int)]:=by rw[zM q,qf];simp only[Zr,qf];rfl
  have k:(Zr ((t.take i).map List.length)).length=i:=by simp[Zr];omega
  rw[n];clear n;generalize t[i]=x at *
  generalize Zr ((t.take i).map List.length)=pre at *
  have w:=Lg (x.length:Int);have T:(Py x).notTuple=true:=rfl;clear A B I v;simp only[go_sem, *];refine f.appH (ys:=wC [(x.length:Int)]) qS ZQ uz ow (Qn _) (by simp[wC]) (by rw[wG,mV,k];unfold lim;simp[wC];omega) (by rw[wG,k];unfold lim;simp[wC];omega) λL h' m=> ?_;rw[<-Qm]at m;clear f;simp only[go_sem, *];exact⟨_,rfl,m⟩
 .rintro fr h C ⟨s,y,N,O,P,z,f⟩
  rw[zt]at f;have u:∀j,Zr (t.map List.length++(o.take j).map λ_=>c.ls.length)=Zr (t.map List.length)++Zr ((o.take j).map λ_=>c.ls.length):=λj=>by simp[Zr]
  simp only[go_sem, *];refine zZ (λi fr h=>∃s,fr 1=.iptr [td,od,a,b,e,p] 0/\fr 20=od/\fr 21=.int .i64 (o.length:Int)/\fr 22=.int .i64 (i:Int)/\fr 3=s/\Own g h 1 (wC (Zr (t.map List.length++(o.take i).map λ_=>c.ls.length))) s) o.length ow ?_ ?_ ?_
  .have h0:Own g h 1 (wC (Zr (t.map List.length++(o.take 0).map λ_=>c.ls.length))) s:=by simpa using f
   simp only[go_sem,zQ,zT,zG];exact⟨s,y,z,h0⟩
  .clear f
   rintro i fr h q C M ⟨s,y,D,E,F,z,f⟩;have n:Zr (t.map List.length++(o.take (i+1)).map λ_=>c.ls.length)=Zr (t.map List.length++(o.take i).map λ_=>c.ls.length)++ [(c.ls.length:Int)]:=by rw[zM q,qf,<-yY];simp only[Zr,qf];rfl
   have k:(Zr (t.map List.length++(o.take i).map λ_=>c.ls.length)).length=t.length+i:=by simp[Zr];omega
   rw[n];clear n u;generalize Zr (t.map List.length++(o.take i).map λ_=>c.ls.length)=pre at *
   have w:=Lg (c.ls.length:Int);clear A B I v;simp only[go_sem, *];refine f.appH (ys:=wC [(c.ls.length:Int)]) qS ZQ uz ow (Qn _) (by simp[wC]) (by rw[wG,mV,k];unfold lim;simp[wC];omega) (by rw[wG,k];unfold lim;simp[wC];omega) λL h' m=> ?_;rw[<-Qm]at m;clear f;simp only[go_sem, *];exact⟨_,rfl,m⟩
  .clear f
   rintro fr h C ⟨s,y,D,E,F,z,f⟩;rw[zt]at f;have hf:=f.2.1.fin (WC _);have Z:=A s h ⟨f.1,yw (yD _) _ hf.1,hf.2⟩;clear A f hf u;exact au
def FY:List Nat->Nat->Nat
 | [],n=>n
 |r::rs,n=>if n*r>4096 then n*r else FY rs (n*r)
def Je(l:List Nat):Nat:=if l.any (· ==0)then 0 else FY l 1
def Ip{t:List (List (List Trm))}{o:List (List UInt8)}(M:Ka c t o cs)(O:c.Sm)(ad:t.length<=524288)(Y:o.length<=524288)(hr:∀x∈t,x.length<=1048576)(g:Heap):
  zE prog 51 [.agg cs] g λr h'=>h'=g/\r=.int .i64 ((Je (Vb c t o):Nat):Int):=by
 have H:=Ib M O ow ow;obtain⟨td,od,a,b,e,p,rfl,ht,ho,u⟩:=M;have h6:=A7;have I:∀r∈Vb c t o,r<=1048576:=λr G=>by
  rcases yv.1 G with q|q
  .obtain⟨x,P,rfl⟩:=zN.1 q;exact hr x P
  .obtain⟨x,P,rfl⟩:=zN.1 q;exact O.ls.1
 have W:(Vb c t o).length<=1048576:=by simp[Vb];omega
 refine xP λQ V=> ?_;have f:=V _ _ ⟨rfl,rfl⟩;unfold Je at f;generalize Vb c t o=L at *
 refine zo zPN ?_;simp only[f51,zA]
 repeat' first|simp only[go_sem, *]|apply bc<;>intro u
 refine(H _).mono ?_;rintro r h ⟨F,hf⟩;subst F;have k:=hf.isSl;have E:(Zr L).length=L.length:=by simp[Zr]
 have d:=Xo k ow 0;have l:=tr k;rw[E]at l;have B:((Zr L).any λx=>x==0)=L.any (· ==0):=by
  rw[Zr,YI];congr 1
  funext x
  exact zBf x 0
 rw[B]at d;cases q:L.any (· ==0)with
 |true=>
  rw[ip q]at f;have Z:Q (.int .i64 0) h:=f;rw[q]at d
  repeat' first|simp only[go_sem, *]|apply bc<;>intro u|refine zE.use (d _) ?_
 |false=>
 rw[iq (by rw[q];exact zV)]at f;rw[q]at d;obtain⟨R,J⟩:∃R,FY L 1=R:=⟨_,rfl⟩;rw[J]at f
 repeat' first|simp only[go_sem, *]|apply bc<;>intro u|(refine zE.mono (d _) ?_;rintro r h ⟨F,rfl⟩)
 subst F
 rename Heap=>g
 refine zZ (λi fr h=>∃n:Nat,fr 11=r/\fr 12=.int .i64 (L.length:Int)/\fr 13=.int .i64 (i:Int)/\fr 4=.int .i64 (n:Int)/\h=g/\n<=4096/\FY (L.drop i) n=R) L.length ow ?_ ?_ ?_
 .simp only[go_sem,zQ,zT,zG]
  exact⟨1,rfl,ow,J⟩
 .rintro i fr h s T ew ⟨n,v,w,z,U,rfl,N,j⟩
  have S:=oe k (show i<(Zr L).length by omega);have D:(Zr L)[i]'ow=((L[i]:Nat):Int):=by simp[Zr]
  rw[D]at S;have A:=I _ (zI s);rw[z8 s,FY]at j;generalize L[i]=y at *
  have hm:n*y<=4096*1048576:=kG N A;have hw:IntKind.i64.wrap ((n:Int)*(y:Int))=((n*y:Nat):Int):=by rw[qJ (by rw[<-mo];omega) (by rw[<-mo];omega),mo]
  generalize X:n*y=m at *
  by_cases K:m>4096
  .have e1:decide ((m:Int)>4096)=true:=zR ow
   rw[ip K]at j;subst j;exact au
  .have e1:decide ((m:Int)>4096)=false:=zO ow
   rw[iq K]at j;have C:m<=4096:=ow
   repeat' first|simp only[go_sem, *]|apply bc<;>intro u
   exact⟨m,rfl,C,j⟩
 .rintro fr h T ⟨n,v,w,z,U,rfl,N,j⟩
  rw[mI,FY]at j;subst j;exact au
def zND:PC prog K4 f153=true:=kr
def IJ(h0:ts≠[])(o:ts.length<=1048576)(g:Heap):
  zE prog 153 [(mkA ts).d] g λr h'=>h'=g/\r=(mkA ts).d:=by
 refine xU kr λj=>xS ?_;have c:Ext g g:=Ext.refl g;have n:(mkA ts).d=.sl 2 (wp ts) .no:=rfl;have p:jR prog .eql 195 true (.sl 2 (wp ts) .no) .nilsl=some (.bool false):=by rw[uj (yg.mk .no) underlying195];rfl
 have t:=λnid h=>wa (P:=prog) (nid:=nid) (h:=h) uD sj ui rfl rfl (by omega:0<2);have i:qg prog false g.next 195 (.sl 2 [] .full) (.sl 2 (wp ts) .no) g=some (.sl 2 (wp ts) (.own g.next),g.new g.next .tok):=by
  rw[kD uD XV ui ow (pv ts) (by rw[kx,wk];unfold lim;omega) (by rw[wk];unfold lim;omega),iq (by rw[wk];exact λq=>h0 (yN.1 q))]
 have e:=c.new (zD _) .tok;have a:=yh (sz:=2) (xs:=wp ts) (λx k=>by
  obtain⟨y,_,rfl⟩:=zN.1 k;exact⟨rfl,by simp[Trm.cells,qM,below],rfl⟩) (.own g.next)
 have b:below g.next (qC (.sl 2 (wp ts) (.own g.next)))/\qC (.sl 2 (wp ts) (.own g.next))=.sl 2 (wp ts) .no:=⟨by rw[a.1];exact yw (yD _) _ a.2,a.1⟩;obtain⟨l,m⟩:=b;refine xP λQ f=> ?_;have s:=f _ _ ⟨e,l,m⟩;refine xO mix func153 zND rfl rfl ?_;simp only[f153,zA];simp only[go_sem,zJk, *]
def nd(sz:Nat):List (List D)->D
 | []=>.nilsl
 |x::xs=>.sl sz (x::xs) .no
theorem ZD{c:Cat} :∀{l:List Fac}{t:List (List (List Trm))}{o:List (List UInt8)},(cj c l t o).1.length<=t.length+l.length/\(cj c l t o).2.1.length<=o.length+l.length
 | [],t,o=>by rw[cj];simp
 |f::fs,t,o=>by
  rw[cj];split
  .split
   .have:=ZD (c:=c) (l:=fs) (t:=t++ [ofL c f.e]) (o:=o)
    grind
   .simp
  .split
   .split
    .have:=ZD (c:=c) (l:=fs) (t:=t) (o:=o)
     grind
    .have:=ZD (c:=c) (l:=fs) (t:=t) (o:=o++ [f.out])
     grind
   .have:=ZD (c:=c) (l:=fs) (t:=t) (o:=o)
    grind
def dx{l:List Fac} :(yV c l).1.length<=l.length/\(yV c l).2.1.length<=l.length:=by grind [yV,ZD]
def A4(c:Cat)(l:List Fac):Nat:=Je (Vb c (yV c l).1 (yV c l).2.1)
def yq(c:Cat)(l:List Fac):Int:=if(!((yV c l).2.2==0))=true then(yV c l).2.2 else if decide ((A4 c l:Int)>4096)=true then 10 else 0
abbrev Pp:List D:=[.nilsl,.nilsl,.nilsl,.nilsl,.nilsl,.nilsl]
def WE{a b e p:D}(h:uL c (.agg [a,b,e,p])):(a.flat=true/\b.flat=true)/\e.flat=true/\p.flat=true:=by
 obtain⟨_,_,_,_,d,f,g,i,j⟩:=h;cases d;exact⟨⟨(zp f).2.2,(zp g).2.2⟩,(zp i).2.2,(zp j).2.2⟩
def Iq{a b e p:D}(h:uL c (.agg [a,b,e,p])):(a.cells= [a]/\b.cells= [b])/\e.cells= [e]/\p.cells= [p]:=by grind [zp,uL]
def IM(j:uL c d)(I:c.Sm){l:List Fac}(W:yg 12 (nu l) x)(hl:l.length<=65536)(A:∀f∈l,f.Ok)(g:Heap):
  zE prog 50 [d,x] g λr h'=>Ext g h'/\∃cs,r=.tuple [.agg cs,.int .i64 (yq c l)]/\(cs.length=6/\cs.all D.flat=true)/\(yq c l=0->Ka c (yV c l).1 (yV c l).2.1 cs):=by
 have E:=TL j I W ow A;obtain⟨X,Y⟩:=dx (c:=c) (l:=l);have C:=λcs (w:Ka c (yV c l).1 (yV c l).2.1 cs)=>Ip w I ow ow λa T=>zY (rz a T).1 ow;have k:=j;obtain⟨ca,cb,ce,cp,rfl,_,_,_,_⟩:=j;obtain⟨⟨N,O⟩,P,R⟩:=WE k;obtain⟨⟨Z,D2⟩,D3,D4⟩:=Iq k;have h6:=A7;refine xP λQ z=> ?_;have U:qX prog 100 []=some (.agg Pp):=by simp[qX,Wg,Pq,uc,D.notTuple,D.cells]
 obtain⟨G,hG,L,y,n0⟩:∃G,g.new g.next (.row Pp)=G/\G.at' g.next=some (.row Pp)/\Ext g G/\g.next<G.next:=⟨_,rfl,z5 _ _ _,(Ext.refl g).new (zD _) _,by rw[za];omega⟩;have u:∀cs:List D,cs.length=6->cs.all D.flat=true->yR prog 100 (.ptr g.next 0) (.agg cs) G=some (G.set g.next (.row cs)):=λcs h1 S=>qh L (by rw[W7,h1]) (by rw[h1];rfl) ow S;refine zo zPM ?_;simp only[f50,zA]
 repeat' first|simp only[go_sem, *]|apply bc<;>intro j
 refine(E _).mono ?_;rintro r h ⟨hq,td,od,rfl,o,n⟩;cases v:((yV c l).2.2==0)with
 |false=>
  have i:yq c l=(yV c l).2.2:=by unfold yq;rw[v];rfl
  have t:=u Pp rfl rfl;have q:=zU G g.next (.row Pp);have s:=z (.tuple [.agg Pp,.int .i64 (yV c l).2.2]) (G.set g.next (.row Pp)) ⟨y.set (zD _) _,Pp,by rw[i],⟨rfl,rfl⟩,λe=>by rw[i]at e;rw[e]at v;exact absurd v jD⟩
  repeat' first|simp only[go_sem, *]|apply bc<;>intro j
 |true=>
 have V:qX prog 100 [(0,td),(1,od),(2,.agg [ca,cb,ce,cp])]=some (.agg [td,od,ca,cb,ce,cp]):=by
  rcases o.isSl with⟨rfl,_⟩ | ⟨_,rfl⟩ <;>rcases n.isSl with⟨rfl,_⟩ | ⟨_,rfl⟩ <;>simp[qX,Wg,Pq,uc,wg,D.cells,D.notTuple]
 have w:Ka c (yV c l).1 (yV c l).2.1 [td,od,ca,cb,ce,cp]:=⟨_,_,_,_,_,_,rfl,o.isSl,n.isSl,k⟩;have b:=C _ w;have m:([td,od,ca,cb,ce,cp]:List D).all D.flat=true:=by simp[(zp o.isSl).2.2,(zp n.isSl).2.2,N,O,P,R]
 have J:yR prog 100 (.ptr G.next 0) (.agg [td,od,ca,cb,ce,cp]) (G.new G.next (.row Pp))=some (G.new G.next (.row [td,od,ca,cb,ce,cp])):=yo W7 ow rfl rfl m;obtain⟨H,hH,r1,F,n1,M⟩:∃H,G.new G.next (.row [td,od,ca,cb,ce,cp])=H/\H.at' G.next=some (.row [td,od,ca,cb,ce,cp])/\Ext G H/\g.next<H.next/\H.at' g.next=some (.row Pp):=⟨_,rfl,z5 _ _ _,(Ext.refl G).new (zD _) _,by rw[za];omega,by rw[zg ow];exact L⟩;have p:Je (Vb c (yV c l).1 (yV c l).2.1)=A4 c l:=rfl;rw[p]at b;cases K:decide ((A4 c l:Int)>4096)with
 |true=>
  have i:yq c l=10:=by unfold yq;rw[v,K];rfl
  have t:yR prog 100 (.ptr g.next 0) (.agg Pp) H=some (H.set g.next (.row Pp)):=qh M W7 rfl jD rfl;have q:=zU H g.next (.row Pp);have s:=z (.tuple [.agg Pp,.int .i64 10]) (H.set g.next (.row Pp)) ⟨(y.trans F).set (zD _) _,Pp,by rw[i],⟨rfl,rfl⟩,λe=>by rw[i]at e;exact absurd e jD⟩
  repeat' first|simp only[go_sem, *]|apply bc<;>intro j|(refine zE.mono (b _) ?_;rintro r h ⟨B,rfl⟩)
 |false=>
  have i:yq c l=0:=by unfold yq;rw[v,K];rfl
  have t:yR prog 100 (.ptr g.next 0) (.agg [td,od,ca,cb,ce,cp]) H=some (H.set g.next (.row [td,od,ca,cb,ce,cp])):=qh M W7 rfl jS m;have q:=zU H g.next (.row [td,od,ca,cb,ce,cp]);have s:=z (.tuple [.agg [td,od,ca,cb,ce,cp],.int .i64 0]) (H.set g.next (.row [td,od,ca,cb,ce,cp])) ⟨(y.trans F).set (zD _) _,_,by rw[i],⟨rfl,m⟩,λ_=>w⟩
  repeat' first|simp only[go_sem, *]|apply bc<;>intro j|(refine zE.mono (b _) ?_;rintro r h ⟨B,rfl⟩)
def cQ(c:Cat)(l:List Fac):D:=if(yq c l==0)=true then .tuple [.int .i64 (A4 c l:Int),.int .i64 0]else .tuple [.int .i64 0,.int .i64 (yq c l)]
def Zb(e:uL c d)(t:c.Sm){l:List Fac}(C:yg 12 (nu l) x)(z:l.length<=65536)(k:∀f∈l,f.Ok)(g:Heap):
  zE prog 19 [d,x] g λr h'=>h'=g/\r=cQ c l:=by
 have i:=IM e t C z k;obtain⟨D,E⟩:=dx (c:=c) (l:=l);have m:=λcs (j:Ka c (yV c l).1 (yV c l).2.1 cs)=>Ip j t ow ow λa y=>zY (rz a y).1 ow;have p:Je (Vb c (yV c l).1 (yV c l).2.1)=A4 c l:=rfl;obtain⟨ca,cb,ce,cp,rfl,_,_,_,_⟩:=e;refine xU kr λq=> ?_;refine xP λQ G=> ?_;have b:∀h',Ext g h'->Q (cQ c l) h':=by grind [cQ,below,qM]
 unfold cQ at b;refine zo zPF ?_;simp only[f19,zA]
 repeat' first|simp only[go_sem, *]|apply bc<;>intro e
 refine(i _).mono ?_;rintro r h ⟨w,cs,rfl,⟨o,cf⟩,j⟩;have u:yR prog 100 (.ptr h.next 0) (.agg cs) (h.new h.next (.row Pp))=some (h.new h.next (.row cs)):=yo W7 ow rfl o cf;obtain⟨H,F,r1,v⟩:∃H,h.new h.next (.row cs)=H/\H.at' h.next=some (.row cs)/\Ext h H:=⟨_,rfl,z5 _ _ _,(Ext.refl h).new (zD _) _⟩;have s:=b H (w.trans v);have B:=zJ o ow;cases n:(yq c l==0)with
 |false=>
  rw[iq (by rw[n];exact zV)]at s
  repeat' first|simp only[go_sem, *]|apply bc<;>intro e
 |true=>
  rw[ip n]at s;have A:=m cs (j (by simpa using n))
  repeat' first|simp only[go_sem, *]|apply bc<;>intro e|refine zE.use (A _) ?_
def Mx{l:List Fac}(h:yq c l=0):A4 c l<=4096:=by grind [yq]
def wV(p:Fac->Bool):List Fac->Nat->List Nat
 | [],_=>[]
 |f::fs,k=>if p f then k::wV p fs (k+1)else wV p fs (k+1)
theorem nf(p:Fac->Bool):∀(l m:List Fac)(k:Nat),wV p (l++m) k=wV p l k++wV p m (k+l.length)
 | [],m,k=>by simp[wV]
 |f::l,m,k=>by
  simp only[zq,wV,nf p l m (k+1),zu];rw[show k+1+l.length=k+(l.length+1) by omega];split<;>simp
theorem oG(p:Fac->Bool):∀(l:List Fac)(k:Nat),∀i∈wV p l k,k<=i/\i<k+l.length
 | [],k,i,h=>by simp[wV]at h
 |f::l,k,i,h=>by
  simp only[wV]at h;have a:=oG p l (k+1);split at h
  .rcases yE.1 h with rfl|h
   .simp
   .have:=a i h;simp;omega
  .have:=a i h;simp;omega
def Jw(p:Fac->Bool)(l:List Fac)(i:Nat):Nat:=(wV p (l.take i) 0).length
def HU{p:Fac->Bool}{l:List Fac}(h:i<l.length)(a:p l[i]=false):Jw p l (i+1)=Jw p l i:=by
 unfold Jw;rw[zM h,nf];simp[wV,a]
def Es{p:Fac->Bool}{l:List Fac}(h:i<l.length)(a:p l[i]=true):Jw p l (i+1)=Jw p l i+1/\(wV p l 0)[Jw p l i]? =some i:=by
 constructor
 .unfold Jw
  rw[zM h,nf];simp[wV,a]
 .unfold Jw
  have e:l=l.take i++l[i]::l.drop (i+1):=by rw[List.getElem_cons_drop,yk]
  have e2:wV p l 0=wV p (l.take i) 0++wV p (l[i]::l.drop (i+1)) (0+(l.take i).length):=by
   rw[<-nf,<-e]
  rw[e2,yT (zD _),lv];have e3:(l.take i).length=i:=by rw[yK];omega
  simp[wV,a,e3]
def Er{p:Fac->Bool}{l:List Fac} :Jw p l l.length=(wV p l 0).length:=by
 unfold Jw;rw[zt]
def fI(sc:List D)(kind:Int)(hf:D):D:=.fn (.func 365) [] [.iptr [.iptr sc 0] 0,.iptr [.int .i64 kind] 0,.iptr [hf] 0]
def Zc(sc:List D)(kind:Int){hf:D}(b:∃f a c,hf=.fn f a c)(h:Heap):zE prog 286 [.iptr sc 0,.int .i64 kind,hf] h λr h'=>h'=h/\r=fI sc kind hf:=by
 obtain⟨fr,a,c,rfl⟩:∃f a c,hf=.fn f a c:=b;refine zo zHq ?_;simp only[f286,zA];simp only[go_sem,fI]
theorem th(p:Fac->Bool):∀(l:List Fac)(k:Nat),(wV p l k).length<=l.length
 | [],_=>zD _
 |f::l,k=>by
  simp only[wV];have:=th p l (k+1);split<;>simp only[zu]<;>omega
def isF(kind:Int)(q:Fac->Bool)(f:Fac):Bool:=f.kind==kind&&q f
def fIx(kind:Int)(q:Fac->Bool)(fs:List Fac):List Nat:=wV (isF kind q) fs 0
abbrev elI(l:List Nat)(k:Nat):List D:=[.int .i64 ((l.getD k 0:Nat):Int)]
def dL{hf:D}{q:Fac->Bool}(U:sc[4]? =some x)(hx:yg 12 (nu fs) x)(hl:fs.length<=1048576)(T:∀f∈fs,f.Ok){Y:Nat->(Nat->Prop)->Heap->Prop}
  (y:Yld prog id (fIx N q fs).length (elI (fIx N q fs)) Y λ_ _=>False)
  {S R:Nat->Prop} (hR:∀i,R i->i<h.next/\(¬S i\/∀k S h',Y k S h'->h'.at' i=h.at' i)) (hq:∀f∈fs,∀o:Heap,(∀i,R i->o.at' i=h.at' i)->YL prog hf [.agg f.cells] o λr h3=>h3=o/\r=.bool (q f)) (hY:Y 0 S h):
  zE prog 365 [.yld id,.iptr [.iptr sc 0] 0,.iptr [.int .i64 N] 0,.iptr [hf] 0] h λ_ h'=>∃S',(∀j,S' j->S j\/h.next<=j)/\But S h h'/\Y (fIx N q fs).length S' h':=by
 refine zo zH9 ?_;simp only[f365,zA];have O:=pp hx;simp only[go_sem,qU,U,O];refine ql (λi fr h'=>fr 0=.yld id/\fr 2=.iptr [.int .i64 N] 0/\fr 3=.iptr [hf] 0/\fr 10=x/\fr 11=.int .i64 fs.length/\fr 12=.int .i64 (i:Int)/\∃S',(∀j,S' j->S j\/h.next<=j)/\But S h h'/\Y (Jw (isF N q) fs i) S' h') fs.length ?_ ?_
 .simp only[go_sem,zQ,zT,zG]
  exact⟨S,λj n=>.inl n,But.refl S h,hY⟩
 rintro i fr h' X ⟨t,u,v,c,d,e,S',w,l,g⟩;simp only[go_sem,t,u,v,c,d,e];by_cases b:i<fs.length
 .rw[zR (show(i:Int)<fs.length by exact_mod_cast b)]
  have Z:fs[i]∈fs:=zI b;have W:=tZ hx b;have hw:yQ true 12 fs[i].cells 0=some (.agg fs[i].cells):=zJ rfl ow;have C:=Ui (T _ Z);have m:Ext h' (h'.new h'.next (.row fs[i].cells)):=(Ext.refl h').new (zD _) _;have a:But S h (h'.new h'.next (.row fs[i].cells)):=l.trans (m.but S) λi X=>.inl X;have A:fs[i].cells[0]? =some (.int .i64 fs[i].kind):=rfl;have G:IntKind.i64.wrap ((i:Int)+1)=((i+1:Nat):Int):=qR jL;cases F:(fs[i].kind==N)with
  |false=>
   simp only[go_sem,t,u,v,c,d,e,W,hw,C,A,F,G,zQ];refine⟨b,S',w,a,?_⟩;rw[HU b (by simp[isF,F])];exact y.ext g m
  |true=>
   simp only[go_sem,t,u,v,c,d,e,W,hw,C,A,F];refine YL.mono (Q:=λr h3=>h3=h'.new h'.next (.row fs[i].cells)/\r=.bool (q fs[i])) ?_ (hq _ Z _ λj n=> ?_)
   rotate_left
   .obtain⟨h1,o|o⟩:=hR j n
    .exact a.2 j h1 o
    .have:=l.1
     rw[zg ow,o _ _ _ g]
   rintro r h3 ⟨rfl,rfl⟩;cases B:q fs[i]with
   |false=>
    simp only[go_sem,t,u,v,c,d,e,G,zQ];refine⟨b,S',w,a,?_⟩;rw[HU b (by simp[isF,B])];exact y.ext g m
   |true=>
    obtain⟨n1,n2⟩:=Es (p:=isF N q) b (by simp[isF,F,B]);have P:=(zK.1 n2).1;have L:(fIx N q fs).getD (Jw (isF N q) fs i) 0=i:=by rw[zC,fIx,n2];rfl
    have z:=y.go _ S' _ P (y.ext g m);simp only[elI,L]at z;simp only[go_sem,t,u,v,c,d,e];refine z.mono ?_;rintro r h3 ⟨V,H,K,hr⟩;have s:But S h h3:=a.trans K w;have E:∀j,V j->S j\/h.next<=j:=λj n=>by
     rcases H j n with n|n
     .exact w j n
     .have h1:=a.1
      exact .inr ow
    rcases hr with⟨rfl,I⟩ | ⟨rfl,J⟩
    .simp only[go_sem,t,u,v,c,d,e,vun,G,zQ]
     exact⟨b,V,E,s,by rw[n1];exact I⟩
    .exact J.elim
 .have M:i=fs.length:=ow
  subst M;rw[zO ow];simp only[go_sem];rw[Er]at g;exact⟨S',w,l,g⟩
end Go.V
