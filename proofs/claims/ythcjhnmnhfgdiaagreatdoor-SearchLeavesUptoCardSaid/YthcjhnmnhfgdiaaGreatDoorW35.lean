/- Rules of the machine of abstract values, part 11. No condition. -/
import Derived.Test.YthcjhnmnhfgdiaaGreatDoorW34
set_option linter.all false
set_option maxHeartbeats 8000000
namespace Go.V
open List hiding max min map and or get le lt range extract
open Nat(zero_le le_refl le_trans lt_irrefl le_of_lt lt_of_lt_of_le lt_of_le_of_lt lt_succ_iff_lt_or_eq le_of_lt_succ)
open Go.Shelf Go.Proofs Go.Sort
open Go.RowKit (Below)
variable {α:Type}{id n i j:Nat}{g h0 h:Heap}{ts:List Trm}{d x y z:D}{S:Nat->Prop}{c:Cat}{e:Ex}{f:FuncId}{cap cs sc:List D}{fs:List Fac}{N:Int}
def fx [Inhabited α] (enc:α->Value) (w:World) (a off m:Nat) (c:Array α) (d:Array Go.Obj):∀b,b≠a->b<w.heap.size->(sortWorld enc w a off m c d).heap[b]? =w.heap[b]? :=λb f g=>by
 show((putRow enc (Go.Sort.ahead w m) a off c).heap++d)[b]? =_;have h:(putRow enc (Go.Sort.ahead w m) a off c).heap.size=w.heap.size:=by simp[putRow,mapBlock,Go.Sort.ahead]
 rw[Array.getElem?_append_left ow];show((Go.Sort.ahead w m).heap.modify a _)[b]? =_;rw[Array.getElem?_modify,iq (λe=>f e.symm)];rfl
section
variable {P:Program} {f cmp:FuncId} {β:Type} {dd:β->D} {xs:List β} {id:Nat} {pre post:List D} {h:Heap} {cf:β->β->Int}
abbrev ZU (dd:β->D) (xs:List β) (M:Imm) (ρ:Ren):= {p:β×Value // p.1∈xs/\rel M ρ (dd p.1) p.2/\(dd p.1).flat=true}
theorem zA.of_sort1 (h0:xs≠[]) (he:wu P f=true) (ba:∀args w,(callFunc cmp args).run P w= .ok (.enter cmp args) w)
  (O:h.at' id=some (.row (pre++xs.map dd++post))) (hO:SWO (ltOf cf)) (a2:xs.length<4611686018427387904)
  (ai:∀x∈xs,∀y∈xs,∀H,zA P cmp [dd x,dd y] H λr H'=>H'=H/\r= .int .i64 (cf x y))
  (a3:∀ (α:Type) [Inhabited α] (enc:α->Value),OneCell enc->∀ (cf:α->α->Int),SWO (ltOf cf)->∀ (g:Nat) (cb:Array Value) (t off cap:Nat) (d:Array α) (w:World),
   (∀args w,(callFunc g args).run P w= .ok (.enter g args) w)->CmpLays1 P g cb enc cf t off d.size w->Go.Sort.Holds enc w t off d->t<w.heap.size->d.size<4611686018427387904->
   Calls P f #[.slice (some ⟨t,off,none⟩) d.size cap, .func (.func g) #[] cb] w λe w'=>e= .returned (.tuple #[])/\∃u n Z,PermIn 0 d.size d u/\SortedIn (ltOf cf) 0 d.size u/\w'=sortWorld enc w t off n u Z):
  zA P f [.rs id 1 pre.length xs.length, .fn (.func cmp) [] []] h λr h'=>r= .tuple []/\∃ys:List β,ys.Perm xs/\ys.Pairwise (λa b=>¬cf b a<0)/\h'=h.set id (.row (pre++ys.map dd++post)):=by
 refine⟨he,λw0 G M ρ w va L Q a1 hr=> ?_⟩;simp only[yD] at hr;obtain⟨v,cl,b3,W,v2,cm,rfl,a6,rfl⟩:=hr;simp only[rel,yD] at W a6;obtain⟨_,b6,l,cap,o,hl,rfl,⟨b7,b8⟩,ch,ho⟩:=W;obtain⟨_,fa,fc,rfl,bk,bo⟩:=a6;have au:fa= #[]:=Array.ext' (by simpa using bk);have a0:fc= #[]:=Array.ext' (by simpa using bo);subst au a0;have b4:0<xs.length:=length_pos_iff.2 h0;have ho:o=pre.length:=by
  rcases ho with hz|ho
  ·omega
  ·exact ho
 subst ho;have a7:va= #[.slice (some ⟨l.blk,pre.length,none⟩) xs.length cap, .func (.func cmp) #[] #[]]:=Array.ext' (by simpa using b3);subst a7;obtain⟨l',h1,D,hM,c,e,hw,cg,b9,K⟩:=Q.live id _ O;rw[hl] at h1;cases h1;have ag:l.blk<w.heap.size:=(Array.getElem?_eq_some_iff.1 hw).1;have a9:∀i (s:i<xs.length),(pre++xs.map dd++post)[pre.length+i]? =some (dd xs[i]):=λi s=>by
  rw[append_assoc,getElem?_append_right ow,Nat.add_sub_cancel_left,getElem?_append_left (by simpa using s),getElem?_map,getElem?_eq_getElem s];rfl
 have F:∀i (s:i<xs.length),∃v,c[pre.length+i]? =some v/\rel M ρ (dd xs[i]) v/\(dd xs[i]).flat=true:=λi s=>by
  obtain⟨h1,v,X,h3⟩:=K _ _ (a9 i s);exact⟨v,X,h3,h1⟩
 let mk:_root_.Fin xs.length->ZU dd xs M ρ:=λi=>⟨(xs[i.1],(F i.1 i.2).choose),getElem_mem i.2,(F i.1 i.2).choose_spec.2⟩
 letI:Inhabited (ZU dd xs M ρ):=⟨mk ⟨0,b4⟩⟩
 let enc:ZU dd xs M ρ->Value:=λp=>p.1.2
 have S:OneCell enc:=λp=>kT p.2.2.1 p.2.2.2
 let d:Array (ZU dd xs M ρ):=Array.ofFn mk
 have R:d.size=xs.length:=by simp[d]
 have bb:∀i (s:i<xs.length),d[i]! =mk ⟨i,s⟩:=λi s=>by rw[getElem!_pos d i (by rw[R];exact s)];simp[d]
 have ak:d.toList.map (λp=>p.1.1)=xs:=by
  apply ext_getElem?;intro i;rw[getElem?_map,Array.getElem?_toList];by_cases s:i<xs.length
  ·rw[Array.getElem?_eq_getElem (by rw[R];exact s),getElem?_eq_getElem s,Option.map_some];simp[d,mk]
  ·rw[Array.getElem?_eq_none ow,getElem?_eq_none ow];rfl
 have a8:SWO (ltOf λp q:ZU dd xs M ρ=>cf p.1.1 q.1.1):=⟨λx=>hO.irrefl _,λx y z=>hO.trans _ _ _,λx y z=>hO.ntrans _ _ _⟩;have N:Go.Sort.Holds enc w l.blk pre.length d:=by
  intro j hj;rw[R] at hj;refine⟨?_,by simp[World.frozen?,hw]⟩;rw[bb _ hj];have W:=(F j hj).choose_spec.1;simp only[World.cell?,hw,Option.isSome_none,Bool.false_eq_true,if_false];exact W
 have U:CmpLays1 P cmp #[] enc (λp q=>cf p.1.1 q.1.1) l.blk pre.length d.size w:=by
  intro m Z J cc x y;have B:=fx enc w l.blk pre.length m J Z;have T:QT P (sortWorld enc w l.blk pre.length m J Z):=⟨λg Y=>by
   have X:=L.here Q.below Y;unfold Lib.TabIs World.var? at X⊢;rw[Y] at X⊢;simp only[Option.bind_some] at X⊢;have C:=(L.1 g Y).1;rw[B g (λq=>D (q▸C)) (lt_of_lt_of_le (w0.kept g C) Q.below.size)];exact X,λg Y=>by
   obtain⟨m,hm⟩:=L.max Q.below Y;have C:=(L.2 g Y).1;exact⟨m,(World.cell?_of_block (w:=w) (B g (λq=>D (q▸C)) (lt_of_lt_of_le (w0.kept g C) Q.below.size))).trans hm⟩⟩
  refine zA.stays (λH=>(ai x.1.1 x.2.1 y.1.1 y.2.1 H).mono λr H' hq=>hq.2) (λM ρ v W=>by simp only[rel] at W;exact W.1) (M:=M) (ρ:=ρ) (n:=h.next) (λb o v hb=> ?_) T a1 ?_
  ·have b2:b≠l.blk:=λq=>by subst q;rw[hM o] at hb;cases hb
   rw[<-Q.imm b o v hb];exact World.cell?_of_block (w:=w) (B b b2 (Q.lt hb))
  ·show yD M ρ _ [_,_];simp only[yD];exact⟨_,_,rfl,x.2.2.1,_,_,rfl,y.2.2.1,rfl⟩
 have A:=a3 (ZU dd xs M ρ) enc S (λp q=>cf p.1.1 q.1.1) a8 cmp #[] l.blk pre.length cap d w ba U N ag (by rw[R];exact a2);rw[R] at A;refine A.mono λe w' hq=> ?_;obtain⟨rfl,u,n,Z,k,E,rfl⟩:=hq;rw[<-R] at k;have a5:=PermIn.list k;have ca:u.size=xs.length:=by rw[k.1,R]
 have b5:(u.toList.map λp=>p.1.1).Perm xs:=by
  have q:=a5.map (λp=>p.1.1)
  rwa [ak] at q
 let I:ZU dd xs M ρ->CP:=λp=>⟨(dd p.1.1,p.1.2),p.2.2.2⟩
 have a4:∀J:List (ZU dd xs M ρ),(J.map I).map (λq=>q.1.1)=(J.map λp=>p.1.1).map dd:=λJ=>by rw[map_map,map_map];rfl
 have b1:∀J:List (ZU dd xs M ρ),(J.map I).map (λq=>q.1.2)=J.map enc:=λJ=>by rw[map_map];rfl
 have V:h.at' id=some (.row (pre++(d.toList.map I).map (λq=>q.1.1)++post)):=by rw[a4,ak];exact O
 have hS:=(Q.ahead n).putRow (α:=CP) (enc:=λq=>q.1.2) (dd:=λq=>q.1.1) (λq=>q.2) V hl (ys:=u.toList.map I) (a5.map I).length_eq (λq hq=>by
  obtain⟨p,hp,rfl⟩:=mem_map.1 hq;exact p.2.2.1)
 have ad:=hS.grow Z;rw[kG,map_toArray,b1,a4,<-map_toArray,Array.toArray_toList,<-kG] at ad;refine⟨.tuple #[],M,ρ, .tuple [],_,rfl,MLe.refl _,RLe.refl _,ad,a1,by simp only[rel,yD];exact⟨#[],rfl,rfl⟩,rfl,u.toList.map (λp=>p.1.1),b5,?_,rfl⟩;rw[pairwise_map,pairwise_iff_getElem];intro i j s hj bs;have bx:j<u.size:=by simpa using hj
 have:=E i j (zero_le _) bs ow;rw[getElem!_pos u j bx,getElem!_pos u i ow] at this;simpa [ltOf] using this
end
open Go.Proofs.Tryz
open Go.Proofs Go.Shelf Go.Sort
set_option maxRecDepth 100000
def ZV:QC qJ where
 anti x y:=by unfold qJ;(repeat' split)<;>omega
 trans x y z h1 h2:=by
  have e:∀a b:Int,qJ a b<=0↔a<=b:=λa b=>by unfold qJ;(repeat' split)<;>omega
  rw[e] at *;omega
def Mc (x y:Int) (h:qJ x y=0):x=y:=by unfold qJ at h;(repeat' split at h)<;>omega
theorem bd:∀a b:List Trm,tf a b=jG zR a b
 | [],[]=>rfl
 | [],_::_=>rfl
 |_::_,[]=>rfl
 |x::xs,y::ys=>by
  simp only[tf,jG,TJ,bd xs ys];by_cases h:zR x y=0<;>simp[h]
def sE (a b:List Trm):nH a b=TJ (qJ a.length b.length) (jG zR a b):=by
 unfold nH TJ;simp only[orL,bd];split
 ·split
  ·rename_i q;exact q.symm
  ·rfl
 ·rfl
def fy:QC nH:=by
 have:=(ZV.key (γ:=List Trm) (λa=>(a.length:Int))).lex oD.list;exact⟨λx y=>by rw[sE,sE];exact this.anti x y,λx y z=>by rw[sE,sE,sE];exact this.trans x y z⟩
def XH (x y:List Trm) (h:nH x y=0):x=y:=by
 rw[sE,TJ] at h;split at h
 ·exact ZR mz _ _ h
 ·rename_i q;exact absurd h q
def ZW (l:List (List Trm)):(zj (l.map mkA)).flatten=l.map λa=>(mkA a).d:=by rw[uU,List.map_map];rfl
variable {id:Nat}{h:Heap}{f:FuncId}
def EV {l:List (List Trm)} (h0:l≠[]) (t:l.length<=1048576) (a:∀i∈l,i.length<=1048576) (b:g.at' id=some (.row (zj (l.map mkA)).flatten)):
  zA prog 238 [.rs id 1 0 l.length, .fn (.func 239) [] []] g λr h'=>r= .tuple []/\h'=g.set id (.row (zj ((srt nH l).map mkA)).flatten):=by
 have:=zA.of_sort1 (P:=prog) (f:=238) (cmp:=239) (dd:=λi=>(mkA i).d) (xs:=l) (id:=id) (pre:=[]) (post:=[]) (h:=g) (cf:=nH) h0 kr (enters_of func239 kr rfl) (by simpa [ZW] using b) fy.swo ow
  (λx q y s H=>XC (zZ.mk .no) (zZ.mk .no) (a x q) (a y s) H) (λα _ enc h1 cf k g cb c off cap d w o n j m e=>Any.slices_SortFunc Tryz.sortAlt enc h1 cf k g cb c off cap d w o n j m e)
 refine this.mono λr h' ⟨e1,ys,p,e,e2⟩=>⟨e1,?_⟩;rw[e2,TK fy XH p e,ZW];simp
open Go.Proofs
def tS (ts:List Trm):List Trm:=cpt zR (srt zR ts)
def oF (out:List (List Trm)) (a:List Trm):List (List Trm):=if(out.any λb=>mr a b)=true then out else out++ [a]
def pO (l:List (List Trm)):Nat->List (List Trm)
 |0=>[]
 |n+1=>match l[n]? with
  |none=>pO l n
  |some a=>oF (pO l n) a
def wj (l:List (List Trm)):List (List Trm):=srt nH (l.map tS)
def yZ (l:List (List Trm)):List (List Trm):=pO (wj l) (wj l).length
def TM (h:ts≠[]):tS ts≠[]:=λe=>by
 have h1:0<(srt zR ts).length:=by rw[(qi ts).length_eq];exact length_pos_iff.2 h
 have:=ZS (c:=zR) h1 _ (le_refl _) h1;rw[show qI zR (srt zR ts) (srt zR ts).length=tS ts from rfl,e] at this
 exact absurd this (lt_irrefl _)
def XI (a:List Trm):(tS a).length<=a.length:=by
 have:=sv (c:=zR) (l:=srt zR a) (srt zR a).length;rw[(qi a).length_eq] at this;exact(by rw[<-(qi (c:=zR) a).length_eq];exact sv _)
def TN (h:ts≠[]) (a:ts.length<=4096):(mkA ts).Ok:=⟨zZ.mk .no,h,a⟩
theorem oG {l:List (List Trm)} :∀n,∀x∈pO l n,x∈l
 |0,x,h=>by cases h
 |n+1,x,h=>by
  rw[pO] at h;split at h
  ·exact oG n x h
  ·rename_i a e;unfold oF at h;split at h
   ·exact oG n x h
   ·rcases mem_append.1 h with h|h
    ·exact oG n x h
    ·cases mem_singleton.1 h;exact mem_of_getElem? e
theorem dA {l:List (List Trm)} :∀n,(pO l n).length<=n
 |0=>le_refl _
 |n+1=>by
  have a:=dA (l:=l) n;rw[pO];split
  ·omega
  ·unfold oF;split
   ·omega
   ·rw[length_append];simp only[length_cons,length_nil];omega
def XJ {l:List (List Trm)} {x:List Trm} (h:x∈yZ l):∃y∈l,x=tS y:=by
 have:=kF.1 (oG _ x h);obtain⟨y,a,rfl⟩:=mem_map.1 this;exact⟨y,a,rfl⟩
theorem dB {l:List Alt} (hd:zZ 1 (zj l) d) (h0:l≠[]) (hl:l.length<=1048576) (J:∀a∈l,a.Ok) (g:Heap):
  zA prog 170 [d] g λr h'=>h'=g/\Fin 1 (zj ((yZ (l.map Alt.ts)).map mkA)) r:=by
 refine xU kr λb6=>xS ?_;have b5:=qW hd;refine xP λQ hQ=> ?_;have b8:=Own.start (Ext.refl g) 1;refine xO mix func170 zEX rfl rfl ?_;simp only[f170,gJ]
 repeat' first|simp only[go_sem, *]|apply bc<;>intro w
 refine zD (λi fr h=>∃s,fr 10=d/\fr 11= .int .i64 (l.length:Int)/\fr 12= .int .i64 (i:Int)/\fr 3=s/\fi g h 1 (zj (((l.take i).map λa=>tS a.ts).map mkA)) s) l.length ow ?_ ?_ ?_
 ·have X:=fi.start (Ext.refl g) 1;simp only[go_sem,true_and,and_true,Int.ofNat_zero];exact⟨_,rfl,X⟩
 ·rintro i fr h q e1 ew ⟨s,ad,ag,ai,f3,A⟩;have a1:=uz hd q;obtain⟨o1,o2,o3⟩:=J _ (getElem_mem q);have b3:(l.take (i+1)).map (λa=>tS a.ts)=(l.take i).map (λa=>tS a.ts)++ [tS l[i].ts]:=by rw[take_succ_eq_append_getElem q,map_append];rfl
  have S:((l.take i).map λa=>tS a.ts).length=i:=by rw[length_map,length_take];omega
  rw[b3];generalize l[i]=a at *
  generalize(l.take i).map (λa=>tS a.ts)=pre at *
  obtain⟨k1,k2,k3⟩:=zJ o1;have a7:=λh=>Ma o1 o2 ow h;have B:=λ(H:Heap) (hr:H.at' h.next=some (.row (yT a.ts).flatten))=>EU (id:=h.next) o2 ow hr;have bb:srt zR a.ts≠[]:=λe=>o2 (length_eq_zero_iff.1 (by rw[<-(qi (c:=zR) a.ts).length_eq,e];rfl));have bk:(srt zR a.ts).length=a.ts.length:=(qi a.ts).length_eq;have O:=λ(H:Heap) (hr:H.at' h.next=some (.row (yT (srt zR a.ts)).flatten))=>VD (id:=h.next) bb ow hr;rw[bk] at O;have cb:D.sl 2 (yT (cpt zR (srt zR a.ts))) .no=(mkA (tS a.ts)).d:=rfl
  repeat' first|simp only[go_sem, *]|apply bc<;>intro w|(refine zA.mono (a7 _) ?_;rintro r h ⟨rfl,rfl⟩)
  refine(B _ (zK _ _ _)).mono ?_;rintro r j ⟨rfl,rfl⟩
  repeat' first|simp only[go_sem, *]|apply bc<;>intro w
  refine(O _ (zC _ _ _)).mono ?_;rintro r j ⟨rfl,rfl⟩;have hE:Ext h (((h.new h.next (.row (yT a.ts).flatten)).set h.next (.row (yT (srt zR a.ts)).flatten)).del h.next):=(((Ext.refl h).new (le_refl _) _).set (le_refl _) _).del (le_refl _);generalize((h.new h.next (.row (yT a.ts).flatten)).set h.next (.row (yT (srt zR a.ts)).flatten)).del h.next=H at *
  have b1:=A.ext hE;obtain⟨d',G,a5,bx,b4⟩:=b1.app (P:=prog) (ys:=zj [mkA (tS a.ts)]) (tk:= .full) ym wq yp ow (λcs=>fj underlying128) (wA _) (wA _) (by simp[zj]) (by rw[zX,length_map,S,qQ];unfold lim;simp[zj];omega) (by rw[zX,length_map,S];unfold lim;simp[zj];omega);have U:=nc (mkA (tS a.ts)).d H.next H rfl rfl rfl;have C:zj [mkA (tS a.ts)]= [[(mkA (tS a.ts)).d]]:=rfl;rw[C] at a5 b4;have m:fi g G 1 (zj ((pre++ [tS a.ts]).map mkA)) d':=by
   rw[map_append]
   have:zj (pre.map mkA++List.map mkA [tS a.ts])=zj (pre.map mkA)++zj [mkA (tS a.ts)]:=by simp[zj]
   rw[this];exact bx
  repeat' first|simp only[go_sem, *]|apply bc<;>intro w
  exact⟨_,rfl,m⟩
 ·rintro fr h e1 ⟨s,ad,ag,ai,f3,A⟩;rw[take_length] at A;have hS:srt nH (l.map λa=>tS a.ts)=wj (l.map Alt.ts):=by rw[wj,map_map];rfl
  have a4:(wj (l.map Alt.ts)).length=l.length:=by rw[<-hS,(qi _).length_eq,length_map]
  have a9:l.map (λa=>tS a.ts)≠[]:=by simp[h0]
  have F:(l.map λa=>tS a.ts).length=l.length:=length_map ..;have v:∀M∈wj (l.map Alt.ts),M≠[]/\M.length<=4096:=λM h=>by
   rw[<-hS] at h;obtain⟨a,ha,rfl⟩:=mem_map.1 (kF.1 h);exact⟨TM (J a ha).ne,le_trans (XI _) (J a ha).len⟩
  have a8:∀M∈l.map (λa=>tS a.ts),M.length<=1048576:=λM h=>by
   have:=(v M (by rw[<-hS];exact kF.2 h)).2;omega
  obtain⟨Z,w⟩:=A;rcases w with⟨_,e⟩ | ⟨id,rfl,W,hid,R,_⟩
  ·exact absurd (by simpa [zj] using e) h0
  have C:(zj ((l.map λa=>tS a.ts).map mkA)).length=l.length:=by rw[zX,length_map,F]
  rw[C] at f3;have B:=EV a9 ow a8 W;have T:yZ (l.map Alt.ts)=pO (wj (l.map Alt.ts)) (wj (l.map Alt.ts)).length:=rfl;rw[T] at hQ;rw[F,hS] at B;generalize wj (l.map Alt.ts)=L at *
  have E0:Ext g (h.set id (.row (zj (L.map mkA)).flatten)):=Z.set hid _;have a3:∀r h',Ext g h'->below g.next (zi r)->Fin 1 (zj ((pO L L.length).map mkA)) (zi r)->Q r h':=λr h' q1 q2 q3=>hQ r h' ⟨q1,q2,q3⟩
  repeat' first|simp only[go_sem, *]|apply bc<;>intro w|(refine zA.mono B ?_;rintro r h ⟨rfl,rfl⟩)
  have r0:(h.set id (.row (zj (L.map mkA)).flatten)).at' id=some (.row (zj (L.map mkA)).flatten):=zC _ _ _;have E:id<(h.set id (.row (zj (L.map mkA)).flatten)).next:=R;generalize h.set id (.row (zj (L.map mkA)).flatten)=H at *
  have cf:=λ(h:Heap)=>tQ (P:=prog) (t:=30) (sz:=1) (id:=id) (off:=0) (len:=l.length) (h:=h) underlying30
  repeat' first|simp only[go_sem, *]|apply bc<;>intro w
  refine zD (λi fr h=>∃o,fr 28= .rs id 1 0 l.length/\fr 29= .int .i64 (l.length:Int)/\fr 30= .int .i64 (i:Int)/\fr 7=o/\Own H h 1 (zj ((pO L i).map mkA)) o) l.length ow ?_ ?_ ?_
  ·have X:=Own.start (Ext.refl H) 1;simp only[go_sem,true_and,and_true,Int.ofNat_zero];exact⟨_,rfl,X⟩
  ·rintro i fr j q ec ew ⟨o,ak,a0,a2,f7,A⟩;have u:i<L.length:=ow;have a1:=z8 (P:=prog) (sz:=1) (id:=id) ym yp (k:= .i64) q;have b2:j.at' id=some (.row (zj (L.map mkA)).flatten):=by rw[A.1.2 _ E];exact r0
   have b9:(zj (L.map mkA)).flatten[i*1]? =some (mkA L[i]).d:=by rw[ZW,Nat.mul_one,getElem?_map,getElem?_eq_getElem u];rfl
   obtain⟨m1,m2⟩:=v L[i] (getElem_mem u);have ba:pO L (i+1)=oF (pO L i) L[i]:=by rw[pO,getElem?_eq_getElem u]
   have Y:∀x∈pO L i,x≠[]/\x.length<=4096:=λx Z=>v x (oG i x Z);have F:=dA (l:=L) i;rw[ba];generalize L[i]=a at *
   generalize pO L i=out at *
   have cc:j.next<(j.new j.next (.row [(mkA a).d])).next:=by rw[zF];omega
   have V:(j.new j.next (.row [(mkA a).d])).at' j.next=some (.row [(mkA a).d]):=zK _ _ _;have b7:zP prog 128 (.ptr j.next 0) (mkA a).d (j.new j.next (.row [.nilsl]))=some (j.new j.next (.row [(mkA a).d])):=by
    rw[zS (zK _ _ _) yp (by simp) rfl rfl,nU];rfl
   have I:=A.ext ((Ext.refl j).new (le_refl _) (.row [(mkA a).d]));have n:=oE (l:=out.map mkA) (d:=o) I.isSl (by rw[length_map];omega) (f:=240) (cap:=[.ptr j.next 0]) (p:=λb=>mr a b.ts) (g:=j.new j.next (.row [(mkA a).d])) (λs X=>by
    obtain⟨y,hy,rfl⟩:=mem_map.1 X;obtain⟨n1,n2⟩:=Y y hy;exact⟨(TN n1 n2).sl,zAs (TN m1 m2) (TN n1 n2) V⟩)
   have N:(out.map mkA).any (λb=>mr a b.ts)=out.any λb=>mr a b:=by rw[any_map];rfl
   rw[N] at n;have a6:(mkA a).d.cells= [(mkA a).d]/\(mkA a).d.notTuple=true:=⟨rfl,rfl⟩;obtain⟨k1,k2⟩:=a6;cases hb:(out.any λb=>mr a b) with
   |true=>
    have K:oF out a=out:=ip hb;rw[K];rw[hb] at n;generalize j.new j.next (.row [(mkA a).d])=h3 at *
    repeat' first|simp only[go_sem, *]|apply bc<;>intro w|(refine zA.mono n ?_;rintro r h ⟨rfl,rfl⟩)
    exact⟨_,rfl,I⟩
   |false=>
    have K:oF out a=out++ [a]:=iq (by rw[hb];exact Bool.false_ne_true);rw[K];rw[hb] at n;have U:=λnid h=>nc (mkA a).d nid h rfl rfl rfl;have ca:sH prog 128 (.ptr j.next 0) (j.new j.next (.row [(mkA a).d]))=some (mkA a).d:=by
     simp only[go_sem,V]
    generalize j.new j.next (.row [(mkA a).d])=h3 at *
    repeat' first|simp only[go_sem, *]|apply bc<;>intro w|(refine zA.mono n ?_;rintro r h ⟨rfl,rfl⟩)
    refine I.appH (ys:=zj [mkA a]) ym wq yp ow (wA _) (by simp[zj]) (by rw[zX,length_map,qQ];unfold lim;simp[zj];omega) (by rw[zX,length_map];unfold lim;simp[zj];omega) λd' h' bo=> ?_;have bs:Own H h' 1 (zj ((out++ [a]).map mkA)) d':=by
     rw[map_append]
     have:zj (out.map mkA++List.map mkA [a])=zj (out.map mkA)++zj [mkA a]:=by simp[zj]
     rw[this];exact bo
    repeat' first|simp only[go_sem, *]|apply bc<;>intro w
    exact⟨_,rfl,bs⟩
  ·rintro fr j ec ⟨o,ak,a0,a2,f7,A⟩;have m:=A.2.1.fin (λx Z=>by
    obtain⟨y,hy,rfl⟩:=mem_map.1 Z;obtain⟨z,_,rfl⟩:=mem_map.1 hy;exact lC z)
   have hq:=a3 o j (E0.trans A.1) (zx (zero_le _) _ m.1) (by rw[a4];exact m.2);exact au
noncomputable def EW:Cfg:=⟨λt=>List.contains (α:=Nat) [22] t,λi=>(cn (α:=List (Nat×Fl)) [] i).getD []⟩
def zHz (t:Tmp):EW.mu t=List.contains (α:=Nat) [22] t:=(rfl)
def zH0:zY prog EW f302=true:=by kernel_rfl
noncomputable def EX:Cfg:=⟨λt=>List.contains (α:=Nat) [33] t,λi=>(cn (α:=List (Nat×Fl)) [] i).getD []⟩
def GE (t:Tmp):EX.mu t=List.contains (α:=Nat) [33] t:=(rfl)
def zH1:zY prog EX f244=true:=by kernel_rfl
def EY (h0:0<n) (k:n<=1048576) (h:Heap):
  zA prog 302 [.nilsl, .int .i64 n] h λr h'=>∃xs:List D,xs.length=n*2/\r= .rs h.next 2 0 0/\h'=h.new h.next (.row xs):=by
 have e1:decide ((n:Int)<0)=false:=decide_eq_false ow;have e2:IntKind.i64.wrap (0-0)=0:=rfl;have e3:IntKind.i64.wrap ((n:Int)-0)=n:=by rw[zd ow ow];omega
 have c:decide ((n:Int)>0)=true:=decide_eq_true ow;have d:yh prog 128 .nilsl none (some (.int .i64 0)) none h=some .nilsl:=by
  simp[yh,mU,pc,yX,yv,wM,cK,Zo]
 have e:tm prog true h.next 128 3 .nilsl (.int .i64 n) h=some (.rs h.next 2 0 n,h.new h.next (.row (si n [.str [], .str []]))):=by
  have j:n*32<=lim:=by unfold lim;omega
  have a:n<=lim:=by unfold lim;omega
  simp only[tm,underlying3,yX,qt,yv,rV,Int.toNat_natCast,D.notTuple,D.cells];rw[ip (by simp[j,a,h0]),uP underlying130]
 have f:yh prog 128 (.rs h.next 2 0 n) none (some (.int .i64 0)) none (h.new h.next (.row (si n [.str [], .str []])))=some (.rs h.next 2 0 0):=
  tJ (n:=0) mU yX yv ow
 have i:∀h:Heap,tU prog 128 .nilsl h=some (.int .i64 0):=λh=>yc (sz:=2) zZ.nil underlying128;refine xO mix func302 zH0 rfl rfl ?_;simp only[f302,gJ];simp only[go_sem,zHz,e1,e2,e3,c,JP underlying128,i,d,e,f,Option.map_none,Option.map_some,List.length_nil,Int.natCast_zero,Int.ofNat_zero];refine⟨si n [.str [], .str []],?_,rfl⟩
 have:∀m,(si m [D.str [],D.str []]).length=m*2:=λm=>by
  induction m with
  |zero=>rfl
  |succ m b=>
   change (List.replicate m [D.str [],D.str []]).flatten.length=_ at b;change (List.replicate (m+1) [D.str [],D.str []]).flatten.length=_;rw[List.replicate_succ,List.flatten_cons,List.length_append,b];simp;omega
 exact this n
def zAt (h0 h:Heap) (l:List Trm) (d:D):Prop:=Ext h0 h/\∃id xs,d= .rs id 2 0 l.length/\h.at' id=some (.row xs)/\h0.next<=id/\id<h.next/\l.length*2<=xs.length/\xs.take (l.length*2)=(yT l).flatten
def Md (l:List Trm):(yT l).flatten.length=l.length*2:=by rw[qD (wt l),yQ]
def Jl {l c:List Trm} {d g:D} (v:zAt h0 h l d) (n:zZ 2 (yT c) g) (E:l.length<=1048576) (z:c.length<=1048576):
  ∃r h',zu prog true h.next 128 d g (qY d g h)=some (r,h')/\zAt h0 h' (l++c) r:=by
 obtain⟨k,id,xs,rfl,hid,w,B,A,q⟩:=v;have u:(l.length+c.length)*32<=lim:=by unfold lim;omega
 have m:l.length+c.length<=lim:=by unfold lim;omega
 have C:∀a:Heap,R7 2 g a=some (yT c).flatten:=λa=>by
  rcases n with⟨rfl,p⟩ | ⟨tk,rfl⟩
  ·have:c= []:=List.map_eq_nil_iff.1 p;subst this;rfl
  ·simp only[R7,if_true]
 have f:(xs.take (l.length*2)).length=l.length*2:=by rw[List.length_take];omega
 have b:=Md c;have key:∀a:Heap,a.at' id=some (.row (xs.take (l.length*2)))->zu prog true h.next 128 (.rs id 2 0 l.length) g a=some (.rs h.next 2 0 (l.length+c.length),(a.del id).new h.next (.row (xs.take (l.length*2)++(yT c).flatten))):=λa e=>by
  simp only[zu,yX,jm,yv,if_true,C,b,Nat.mul_div_cancel _ (show 0<2 by omega),qf,rV,Bool.true_and];rw[ip (by simp[u,m]),e];simp only[];rw[ip (by rw[f])]
 obtain⟨a,e1,e2,e3,t⟩:∃a,qY (.rs id 2 0 l.length) g h=a/\a.next=h.next/\(∀j,j≠id->a.at' j=h.at' j)/\a.at' id=some (.row (xs.take (l.length*2))):=by
  by_cases s:l.length*2<xs.length
  ·refine⟨h.set id (.row (xs.take (l.length*2))),?_,rfl,λj y=>by simp[Heap.set,y],zC _ _ _⟩;rcases n with⟨rfl,p⟩ | ⟨tk,rfl⟩ <;>simp[qY,hid,s]
  ·have q:xs.take (l.length*2)=xs:=List.take_of_length_le ow;refine⟨h,?_,rfl,λ_ _=>rfl,by rw[q];exact hid⟩;rcases n with⟨rfl,p⟩ | ⟨tk,rfl⟩ <;>simp[qY,hid,s]
 have o:Ext h0 a:=⟨by rw[e2];exact k.1,λi x=>by rw[e3 i ow];exact k.2 i x⟩;rw[e1,key a t];refine⟨_,_,rfl,(o.del w).new k.1 _,h.next,_,by rw[List.length_append],zK _ _ _,k.1,?_,?_,?_⟩
 ·have:(a.del id).next=a.next:=rfl;simp only[Heap.new,this,e2];omega
 ·rw[List.length_append,List.length_append,f,b];omega
 ·rw[q,Jh,List.take_of_length_le (by rw[List.length_append,List.length_append,Md,b];omega)]
theorem Me {a b:Alt} (Y:a.Ok) (Z:b.Ok) (g:Heap):
  zA prog 244 [.sl 1 [[a.d],[b.d]] .full] g λr h'=>h'=g/\r=(mkA (a.ts++b.ts)).d:=by
 obtain⟨P,Q,a3⟩:=Y;obtain⟨R,b2,b3⟩:=Z;have ak:0<a.ts.length:=List.length_pos_iff.2 Q;refine xU kr λai=> ?_
 suffices hh:zA prog 244 [.sl 1 [[a.d],[b.d]] .full] g λr h'=>zAt g h' (a.ts++b.ts) r by
  refine zA.freezeD (hh.mono ?_);rintro r h' ⟨X,id,xs,rfl,hid,hg,q,ad,ht⟩;refine⟨id,xs,hid,X.del hg,?_⟩;rw[fw (xs:=yT (a.ts++b.ts)) (rest:=xs.drop ((a.ts++b.ts).length*2)) (wt _) (yQ _) (by rw[<-ht,List.take_append_drop])];exact⟨Ji _ _,rfl⟩
 obtain⟨M,o,p,u⟩:∃M:Nat->Nat,M 0=0/\M 1=a.ts.length/\M 2=a.ts.length+b.ts.length:=⟨λi=>if i=0 then 0 else if i=1 then a.ts.length else a.ts.length+b.ts.length,rfl,rfl,rfl⟩
 obtain⟨L,c,j,m⟩:∃L:Nat->List Trm,L 0= []/\L 1=a.ts/\L 2=a.ts++b.ts:=⟨λi=>if i=0 then [] else if i=1 then a.ts else a.ts++b.ts,rfl,rfl,rfl⟩
 obtain⟨k,e,f⟩:∃k:Nat->Alt,k 0=a/\k 1=b:=⟨λi=>if i=0 then a else b,rfl,rfl⟩
 have ag:∀h:Heap,tU prog 30 (.sl 1 [[a.d],[b.d]] .full) h=some (.int .i64 2):=λh=>yc (zZ.mk .full) underlying30;have A:∀i:Nat,i<2->zQ prog 30 (.sl 1 [[a.d],[b.d]] .full) (.int .i64 (i:Int))=some (.iptr [(k i).d] 0)/\zZ 2 (yT (k i).ts) (k i).d/\M (i+1)=M i+(k i).ts.length/\L (i+1)=L i++(k i).ts/\(L i).length<=8192/\(k i).ts.length<=8192/\M i<=8192:=λi hi=>by
  rcases i with _|_|i
  ·refine⟨zb (zZ.mk .full) ym yp (by rw[e];rfl),by rw[e];exact P,by rw[o,e,p];omega,by rw[c,j,e];rfl,by rw[c];simp,by rw[e];omega,by omega⟩
  ·refine⟨zb (zZ.mk .full) ym yp (by rw[f];rfl),by rw[f];exact R,by rw[p,f,u],by rw[j,m,f],by rw[j];omega,by rw[f];omega,by show M 1<=8192;omega⟩
  ·omega
 clear e f;refine xO mix func244 zH1 rfl rfl ?_;simp only[f244,gJ]
 repeat' first|simp only[go_sem,GE, *]|apply bc<;>intro w
 refine zD (λi fr h=>fr 0= .sl 1 [[a.d],[b.d]] .full/\fr 9= .sl 1 [[a.d],[b.d]] .full/\fr 10= .int .i64 2/\fr 11= .int .i64 (i:Int)/\fr 3= .int .i64 ((M i:Nat):Int)/\h=g) 2 ow ?_ ?_ ?_
 ·simp only[go_sem,true_and,and_true,Int.ofNat_zero,GE,o]
 ·rintro i fr h q e1 S ⟨T,V,E,s,U,rfl⟩;obtain⟨x1,B,C,D,x5,x6,x7⟩:=A i q;have N:=yr B;have hw:IntKind.i64.wrap (((M i:Nat):Int)+(((k i).ts.length:Nat):Int))=((M (i+1):Nat):Int):=by rw[C,zd ow ow];omega
  have O:decide (((M (i+1):Nat):Int)<0)=false:=decide_eq_false ow;have e2:decide ((i:Int)<2)=true:=e1;clear C D A o p u
  repeat' first|simp only[go_sem,GE, *]|apply bc<;>intro w
 ·rintro fr h e1 ⟨T,V,E,s,U,rfl⟩;have e2:decide ((((2:Nat):Int))<2)=false:=rfl;have z:=EY (n:=M 2) ow ow h;have J:fr 11= .int .i64 2:=s;clear e1 s o p u
  repeat' first|simp only[go_sem,GE, *]|apply bc<;>intro w
  refine z.mono ?_;rintro r W ⟨xs,au,rfl,rfl⟩;have y:zAt h (h.new h.next (.row xs)) (L 0) (.rs h.next 2 0 0):=⟨(Ext.refl h).new (Nat.le_refl _) _,h.next,xs,by rw[c];rfl,zK _ _ _,Nat.le_refl _,by rw[zF];omega,by rw[c];simp,by rw[c];rfl⟩;generalize h.new h.next (.row xs)=W at *
  clear z
  repeat' first|simp only[go_sem,GE, *]|apply bc<;>intro w
  refine zD (λi fr I=>fr 25= .sl 1 [[a.d],[b.d]] .full/\fr 26= .int .i64 2/\fr 27= .int .i64 (i:Int)/\zAt h I (L i) (fr 6)) 2 ow ?_ ?_ ?_
  ·simp only[go_sem,true_and,and_true,Int.ofNat_zero,GE];exact y
  ·rintro i l I q e1 S ⟨F,G,t,v⟩;obtain⟨d,H⟩:∃x,l 6=x:=⟨_,rfl⟩;rw[H] at v;obtain⟨x1,B,C,D,x5,x6,x7⟩:=A i q;obtain⟨d',h5,k1,k2⟩:=Jl v B ow ow;rw[<-D] at k2;have e2:decide ((i:Int)<2)=true:=e1;obtain⟨q1,q2,q3⟩:=zJ B;clear C D A c j m v y
   repeat' first|simp only[go_sem,GE, *]|apply bc<;>intro w
  ·rintro l I e1 ⟨F,G,t,v⟩;have e2:decide ((((2:Nat):Int))<2)=false:=rfl;have K:l 27= .int .i64 2:=t;rw[m] at v;obtain⟨d,H⟩:∃x,l 6=x:=⟨_,rfl⟩;rw[H] at v;clear e1 t A c j m
   repeat' first|simp only[go_sem,GE, *]|apply bc<;>intro w
def jH (a b:List Alt) (k:Nat):List Trm:=(a.getD (k/b.length) (mkA [])).ts++(b.getD (k%b.length) (mkA [])).ts
def nJ (a b:List Alt):List (List Trm):=(List.range (a.length*b.length)).map (jH a b)
def Mf {a b:List Alt} (d:i<a.length) (c:j<b.length):jH a b (i*b.length+j)=a[i].ts++b[j].ts:=by
 unfold jH;rw[show(i*b.length+j)/b.length=i by rw[Nat.mul_comm,Nat.mul_add_div ow,Nat.div_eq_of_lt c];rfl,show(i*b.length+j)%b.length=j by rw[Nat.mul_comm,Nat.mul_add_mod,Nat.mod_eq_of_lt c]];simp[d,c]
def be (a b:List Alt):(nJ a b).length=a.length*b.length:=by simp[nJ]
def EZ {a b:List Alt} (d:zZ 1 (zj a) x) (c:zZ 1 (zj b) y) (g:Heap):zA prog 172 [x,y] g λr h'=>h'=g/\r= .fn (.func 243) [] [.iptr [x] 0, .iptr [y] 0]:=by
 refine xO mix func172 zC6 rfl rfl ?_;simp only[f172,gJ];rcases d with⟨rfl,_⟩ | ⟨_,rfl⟩
 ·rcases c with⟨rfl,_⟩ | ⟨_,rfl⟩
  ·exact au
  ·exact au
 ·rcases c with⟨rfl,_⟩ | ⟨_,rfl⟩
  ·exact au
  ·exact au
def Jm {a b:List Alt} (D:zZ 1 (zj a) x) (E:zZ 1 (zj b) y) (O:∀q∈a,q.Ok) (Q:∀q∈b,q.Ok) (a3:a.length<=4096) (a4:b.length<=4096) {Y:Nat->(Nat->Prop)->Heap->Prop} (F:Yld prog id (a.length*b.length) (λk=>[(mkA (jH a b k)).d]) Y λ_ _=>False) {w:Heap} (hY:Y 0 S w):
  zA prog 243 [.yld id, .iptr [x] 0, .iptr [y] 0] w λ_ h'=>∃S',But S w h'/\Y (a.length*b.length) S' h':=by
 have a0:=qW D;have a2:=qW E;obtain⟨x1,x2,_⟩:=zJ D;obtain⟨y1,y2,_⟩:=zJ E;refine xO mix func243 zDy rfl rfl ?_;simp only[f243,gJ]
 repeat' first|simp only[go_sem, *]|apply bc<;>intro R
 refine zD (λi fr h'=>fr 0= .yld id/\fr 2= .iptr [y] 0/\fr 8=x/\fr 9= .int .i64 (a.length:Int)/\fr 10= .int .i64 (i:Int)/\∃S',(∀j,S' j->S j\/w.next<=j)/\But S w h'/\Y (i*b.length) S' h') a.length ow ?_ ?_ ?_
 ·have I:∃S',(∀j,S' j->S j\/w.next<=j)/\But S w w/\Y (0*b.length) S' w:=⟨S,λj C=> .inl C,But.refl S w,by rw[Nat.zero_mul];exact hY⟩;simp only[go_sem,true_and,and_true,Int.ofNat_zero];exact I
 ·rintro i fr h1 n e1 ew ⟨J,K,L,M,A,N⟩;have a1:=uz D n;have v:=O _ (List.getElem_mem n);have B:=λj (C:j<b.length)=>Mf n C;generalize a[i]=p at *
  obtain⟨T,p2,_⟩:=zJ v.sl
  repeat' first|simp only[go_sem, *]|apply bc<;>intro R
  refine yF (λj fr h'=>fr 0= .yld id/\fr 2= .iptr [y] 0/\fr 8=x/\fr 9= .int .i64 (a.length:Int)/\fr 10= .int .i64 (i:Int)/\fr 5=p.d/\fr 14=y/\fr 15= .int .i64 (b.length:Int)/\fr 16= .int .i64 (j:Int)/\∃S',(∀j,S' j->S j\/w.next<=j)/\But S w h'/\Y (i*b.length+j) S' h') b.length ?_ ?_
  ·simp only[go_sem,true_and,and_true,Int.ofNat_zero];exact⟨J,K,L,M,A,N⟩
  clear N;rintro j X m C ⟨g0,g2,g8,g9,Z,g5,ad,ag,ai,S',f,c,e⟩;by_cases l:j<b.length
  ·have e2:decide ((j:Int)<(b.length:Int))=true:=decide_eq_true ow;have W:IntKind.i64.wrap ((j:Int)+1)=((j+1:Nat):Int):=zw (by unfold lim;omega);have b1:=uz E l;have z:=Q _ (List.getElem_mem l);have s:=B j l;have hk:i*b.length+j<a.length*b.length:=by
    have:i*b.length+b.length<=a.length*b.length:=by rw[<-Nat.succ_mul];exact Nat.mul_le_mul_right _ n
    omega
   have t:=F.go (i*b.length+j) S' m hk e;simp only[s] at t;generalize b[j]=q at *
   obtain⟨U,q2,_⟩:=zJ z.sl;have G:=Me v z m;have ak:∀nid:Nat,zI prog false nid 30 2 [(0,p.d),(1,q.d)] m=some (.sl 1 [[p.d],[q.d]] .full,m):=λnid=>by
    have:=fQ (P:=prog) (nid:=nid) (h:=m) (x:=p.d) (y:=q.d) ym pv yp rfl rfl ow ow p2 (by rw[T];rfl) q2 (by rw[U];rfl);rw[T,U] at this;exact this
   have a5:(mkA (p.ts++q.ts)).d.notTuple=true:=rfl;clear v z B s F D E O Q
   repeat' first|simp only[go_sem, *]|apply bc<;>intro R|(refine zA.mono G ?_;rintro r h ⟨hq,rfl⟩)
   subst hq;refine t.mono ?_;rintro r h3 ⟨V,k1,k2,k3⟩;rcases k3 with⟨rfl,k3⟩ | ⟨rfl,k3⟩
   ·have o:∃S',(∀j,S' j->S j\/w.next<=j)/\But S w h3/\Y (i*b.length+(j+1)) S' h3:=⟨V,λi' H=>by
     rcases k1 i' H with q|q
     ·exact f _ q
     ·exact .inr (by have:=c.1;omega),c.trans k2 f,k3⟩
    clear f c e k1 k2 k3 t;exact au
   ·exact k3.elim
  ·have e2:decide ((j:Int)<(b.length:Int))=false:=decide_eq_false ow;have u:j=b.length:=ow;have o:∃S',(∀j,S' j->S j\/w.next<=j)/\But S w m/\Y ((i+1)*b.length) S' m:=⟨S',f,c,by rw[Nat.succ_mul,<-u];rw[u] at e⊢;exact e⟩;clear f c e F u;exact au
 ·rintro fr m e1 ⟨J,K,L,M,A,S',f,c,e⟩;have o:∃S',But S w m/\Y (a.length*b.length) S' m:=⟨S',c,e⟩;clear f c e F;exact au
def TO (l:List (List Trm)):∀c∈zj (l.map mkA),yf c:=λc a=>by
 obtain⟨y,b,rfl⟩:=List.mem_map.1 a;obtain⟨z,_,rfl⟩:=List.mem_map.1 b;exact lC z
theorem XK {a b:List Alt} (hx:zZ 1 (zj a) x) (hy:zZ 1 (zj b) y) (ha:∀q∈a,q.Ok) (hb:∀q∈b,q.Ok) (O:a.length<=256) (R:b.length<=256) (g:Heap):
  zA prog 242 [.nilsl, .fn (.func 243) [] [.iptr [x] 0, .iptr [y] 0]] g λr h'=>h'=g/\Fin 1 (zj ((nJ a b).map mkA)) r:=by
 refine xU kr λad=>xS ?_;refine xP λQ hQ=> ?_;have I:(nJ a b).length=a.length*b.length:=be a b;have hm:a.length*b.length<=65536:=Nat.le_trans (Nat.mul_le_mul O R) ow;obtain⟨n,o⟩:∃n,zj ((nJ a b).map mkA)=n:=⟨_,rfl⟩;have X:n.length=a.length*b.length:=by rw[<-o,zX,List.length_map,I]
 have W:∀k,k<a.length*b.length->n[k]? =some [(mkA (jH a b k)).d]:=λk N=>by
  rw[<-o];simp[zj,nJ,N]
 have V:∀c∈n,yf c:=by rw[<-o];exact TO _
 rw[o] at hQ;refine xO mix func242 zDa rfl rfl ?_;simp only[f242,gJ];simp only[go_sem, *];simp only[zF];generalize H:LRec.mk _ _ _ _ _ _ _=L;have yl:Yld prog (g.next+1) (a.length*b.length) (λk=>[(mkA (jH a b k)).d]) (CH g.next 1 L n) (λ_ _=>False):=by
  refine⟨λk S h y=>y.here,λk S h h' y hn N=>y.loc hn N,λS h hz=>hz.elim,λS h h' hz=>hz.elim,λi S h3 hi Z=> ?_⟩;have hc:=W i hi;generalize U:(mkA (jH a b i)).d=m at *
  have T:m.cells= [m]/\m.notTuple=true/\m.flat=true:=by rw[<-U];exact⟨rfl,rfl,rfl⟩
  obtain⟨m1,m2,m3⟩:=T;have v:=λnid h=>nc m nid h m1 m2 m3;obtain⟨g1,t,d,G,u,s⟩:=Z;subst H;refine yo.round (g:=UQ) mix t rfl kr kr kr ?_;simp only[go_sem];refine⟨t,?_⟩;generalize hB:LRec.mk .busy _ _ _ _ _ _=B;generalize f:Heap.set h3 (g.next+1) (.loop B)=h5;have C:h5.at' g.next=some (.row [d]):=by rw[<-f,zE ow];exact G
  have a3:h5.at' (g.next+1)=some (.loop B):=by rw[<-f];simp[Heap.set]
  have a4:h5.next=h3.next:=by rw[<-f,zT]
  have D:wW h5 1 (n.take i) d:=u.loc ow λj l=>by
   have:=u.tok l;rw[<-f,zE (λe=>by subst e;rw[t] at this;cases this.2)]
  simp only[go_sem,C,v];have A:(n.take i).length=i:=by rw[List.length_take];omega
  refine D.app2 ym wq yp ow (by simp) (by simp) (by rw[A,qQ];unfold lim;simp;omega) (by rw[A];unfold lim;simp;omega) ?_;intro F h6 b1 b2 E b4 b5 b6;have c1:h6.at' g.next=some (.row [d]):=by
   rw[E _ ow λz=> ?_]
   ·exact C
   ·have:=(D.tok z).2;rw[C] at this;cases this
  have Y:=zS (P:=prog) (off:=0) c1 mQ (by simp) b5 b6;simp only[go_sem,Y,List.set_cons_zero];have c2:(h6.set g.next (.row [F])).at' (g.next+1)=some (.loop B):=by
   rw[zE ow,E _ ow λz=> ?_]
   ·exact a3
   ·have:=(D.tok z).2;rw[a3] at this;cases this
  refine qy c2 ⟨λj=>j=g.next\/j=g.next+1\/wX F j,λj l=> ?_,⟨by simp only[go_sem];omega,λj l J=> ?_⟩, .inl ⟨rfl,by simp only[go_sem];omega,?_,F,?_,?_,λj=>Iff.rfl⟩⟩
  ·rcases l with rfl|rfl|l
   ·exact .inl ((s _).2 (.inl rfl))
   ·exact .inl ((s _).2 (.inr (.inl rfl)))
   ·exact .inr (by have:=b4 j l;omega)
  ·have n1:j≠g.next:=λe=>J ((s j).2 (.inl e));have n2:j≠g.next+1:=λe=>J ((s j).2 (.inr (.inl e)));rw[zE n2,zE n1,E j ow (λz=>J ((s j).2 (.inr (.inr z)))),<-f,zE n2]
  ·rw[zC,<-hB]
  ·rw[zE ow,zC]
  ·have:n.take (i+1)=n.take i++ [[m]]:=by rw[List.take_add_one,hc];rfl
   rw[this];refine b1.loc (Nat.le_refl _) λj l=> ?_;have:=b4 j l;rw[zE ow,zE ow]
 refine(Jm hx hy ha hb ow ow yl (S:=λi=>i=g.next\/i=g.next+1) (w:=(g.new g.next (.row [.nilsl])).new (g.next+1) (.loop L)) ?_).mono ?_
 ·refine⟨?_,zK _ _ _, .nilsl,by rw[zG ow,zK], .inl ⟨rfl,rfl⟩,λj=>by simp[wX]⟩;rw[zo _ (by rw[zF];exact Nat.le_refl _)];omega
 rintro r h2 ⟨S',M,K⟩;obtain⟨g1,t,d,G,u,s⟩:=K;rw[<-X,List.take_length] at u;refine⟨L,t,?_,?_⟩
 ·rw[<-H];intro e;cases e
 have hp:L.pending=none:=by rw[<-H]
 rw[hp,ur];have k1:(h2.del (g.next+1)).at' g.next=some (.row [d]):=by rw[yI ow];exact G
 have p:=u.fin V;have hq:=hQ d (h2.del (g.next+1)) ⟨Ext.del (Ext.of_but (((Ext.refl g).new (Nat.le_refl _) _).new ow _) M λj l=>by rcases l with rfl|rfl<;>omega) ow,zx (Nat.zero_le _) _ p.1,p.2⟩;exact au
def Rj {a b:List Alt} (k:zZ 1 (zj a) x) (l:zZ 1 (zj b) y) (f:∀q∈a,q.Ok) (i:∀q∈b,q.Ok) (c:a.length<=256) (d:b.length<=256) (g:Heap):
  zA prog 171 [.fn (.func 243) [] [.iptr [x] 0, .iptr [y] 0]] g λr h'=>h'=g/\Fin 1 (zj ((nJ a b).map mkA)) r:=by
 have h1:=XK k l f i c d;refine xP λQ e=> ?_;refine xO mix func171 zEu rfl rfl ?_;simp only[f171,gJ];simp only[go_sem, *];refine(h1 _).mono ?_;rintro r h ⟨j,hf⟩;subst j;have:=e r h ⟨rfl,hf⟩;exact au
def XL (l:List (List Trm)):D:= .tuple (if l.length>64 then [.nilsl, .int .i64 10] else [.sl 1 (zj (l.map mkA)) .no, .int .i64 0])
def VE {l:List (List Trm)} (e:l.length<=1048576) (g:Heap):
  zA prog 169 [.sl 1 (zj (l.map mkA)) .no] g λr h'=>h'=g/\r=XL l:=by
 have a:=qW (l:=l.map mkA) (zZ.mk .no);rw[List.length_map] at a;refine xP λQ d=> ?_;have b:=d (XL l) g ⟨rfl,rfl⟩;unfold XL at b;refine xO mix func169 zED rfl rfl ?_;simp only[f169,gJ];by_cases c:l.length>64
 ·rw[ip c] at b;have e1:decide ((l.length:Int)>64)=true:=decide_eq_true ow;exact au
 ·rw[iq c] at b;have e1:decide ((l.length:Int)>64)=false:=decide_eq_false ow;exact au
def dC (l:List Lic):∀x∈pH l,x.length=4:=λx a=>by
 obtain⟨y,_,rfl⟩:=mem_map.1 a;rfl
def Jn (x y:Lic) (g:Heap):zA prog 234 [.agg x.cells, .agg y.cells] g λr h'=>h'=g/\r= .int .i64 (qJ x.ver y.ver):=by
 have h1:=fR x.ver y.ver;refine xO mix func234 zE0 rfl rfl ?_;simp only[f234,gJ];simp only[Lic.cells]
 repeat' first|simp only[go_sem, *]|apply bc<;>intro a|(refine zA.mono (h1 _) ?_;rintro r h ⟨rfl,rfl⟩)
def Ea {l:List Lic} (h0:l≠[]) (s:l.length<=1048576) (a:g.at' id=some (.row (pH l).flatten)):
  zA prog 233 [.rs id 4 0 l.length, .fn (.func 234) [] []] g λr h'=>r= .tuple []/\∃ys:List Lic,ys.Perm l/\h'=g.set id (.row (pH ys).flatten):=by
 have:=zA.of_sortK (P:=prog) (f:=233) (cmp:=234) (k:=4) (cells:=Lic.cells) (xs:=l) (id:=id) (pre:=[]) (post:=[]) (h:=g) (cf:=λx y=>qJ x.ver y.ver) (mid:=[]) (midV:=[]) (λM ρ vs h=>by simpa [yD] using h) h0 ow (λ_ _=>rfl) kr (enters_of func234 kr rfl) (by simpa [pH] using a) (ZV.key Lic.ver).swo ow
  (λx _ y _ H=>Jn x y H) (λα _ enc h1 e cf j g cb b off cap d w o n i m c q=>AnyQ.slices_SortFunc Tryz.sortLic 4 (isAgg108) (sizeOf108) enc h1 e cf j g cb b off cap d w o n i m c)
 refine this.mono λr h' ⟨e1,ys,p,c,e2⟩=>⟨e1,ys,p,?_⟩;rw[e2];simp[pH]
def uV (x y:Lic):Bool:=y.fam==x.fam&&decide (y.ver>=x.ver)
def oH (c:Cat) (x:Lic):List (List UInt8):=(c.ls.filter (uV x)).map Lic.name
def XM {k:List UInt8} {x:Lic} (h:rH c k=some x):x∈c.ls:=by
 unfold rH at h;split at h
 ·cases h
 ·split at h
  ·exact mem_of_getElem? h
  ·cases h
def XN {x:Lic} (h:x∈c.ls):c.ls.filter (uV x)≠[]:=λe=>by
 have:x∈c.ls.filter (uV x):=mem_filter.2 ⟨h,by simp[uV]⟩;rw[e] at this;cases this
def Eb (x:Lic) (nid:Nat) (h:Heap):zI prog false nid 22 1 [(0, .agg [.str x.name, .str x.fam, .int .i64 x.ver, .str x.text])] h=some (.sl 4 [x.cells] .full,h):=
 zz (P:=prog) (x:= .agg [.str x.name, .str x.fam, .int .i64 x.ver, .str x.text]) mP gk rz rfl rfl ow ow rfl rfl
theorem Ec (n:yt c d) (hs:c.Sm) {k:List UInt8} {x:Lic} (hf:rH c k=some x) (g:Heap):
  zA prog 168 [d, .str k] g λr h'=>h'=g/\∃ns,ns.Perm (oH c x)/\r= .tuple [.sl 1 (yR ns) .no, .int .i64 0]:=by
 have F:=MG n hs k;have S:p7 c k= .tuple [.agg [.str x.name, .str x.fam, .int .i64 x.ver, .str x.text], .bool true]:=by unfold p7;rw[hf]
 rw[S] at F;clear S;refine xU kr λbb=>xS ?_;refine xP λQ hQ=> ?_;have ad:=XM hf;have s1:=hs.ls.1;obtain⟨a,b,e,p,rfl,ha,hb,he,hp⟩:=n;have A:=qz ha;have Y:=pV x;obtain⟨G0,N,r0,E0,n0⟩:∃G,g.new g.next (.row [.str x.name, .str x.fam, .int .i64 x.ver, .str x.text])=G/\G.at' g.next=some (.row [.str x.name, .str x.fam, .int .i64 x.ver, .str x.text])/\Ext g G/\g.next<G.next:=⟨_,rfl,zK _ _ _,(Ext.refl g).new (le_refl _) _,by rw[zF];omega⟩;refine xO mix func168 zDs rfl rfl ?_;simp only[f168,gJ]
 repeat' first|simp only[go_sem, *]|apply bc<;>intro n|(refine zA.mono (F _) ?_;rintro r h ⟨hq,rfl⟩)
 clear Y F hb he hp;refine zD (λi fr h=>∃s,fr 6= .ptr g.next 0/\fr 23=a/\fr 24= .int .i64 (c.ls.length:Int)/\fr 25= .int .i64 (i:Int)/\fr 8=s/\fi G0 h 4 (pH ((c.ls.take i).filter (uV x))) s) c.ls.length ow ?_ ?_ ?_
 ·have a8:=fi.start (Ext.refl G0) 4;simp only[go_sem,true_and,and_true,Int.ofNat_zero];exact⟨_,rfl,a8⟩
 ·rintro i fr l z ec ew ⟨s,f6,ai,ak,a0,f8,j⟩;have a1:=wx ha z;have w:(c.ls.take (i+1)).filter (uV x)=(c.ls.take i).filter (uV x)++ [c.ls[i]].filter (uV x):=by rw[take_succ_eq_append_getElem z,filter_append]
  have I:((c.ls.take i).filter (uV x)).length<=i:=le_trans (length_filter_le _ _) (by rw[length_take];omega);rw[w];clear w;generalize c.ls[i]=y at *
  generalize(c.ls.take i).filter (uV x)=pre at *
  have a9:=pV y l l.next;have r1:(l.new l.next (.row [.str y.name, .str y.fam, .int .i64 y.ver, .str y.text])).at' g.next=some (.row [.str x.name, .str x.fam, .int .i64 x.ver, .str x.text]):=by
   rw[zG (by have:=j.1.1;omega),j.1.2 _ n0];exact r0
  have r2:(l.new l.next (.row [.str y.name, .str y.fam, .int .i64 y.ver, .str y.text])).at' l.next=some (.row [.str y.name, .str y.fam, .int .i64 y.ver, .str y.text]):=zK _ _ _;have m:=j.ext ((Ext.refl l).new (le_refl _) (.row [.str y.name, .str y.fam, .int .i64 y.ver, .str y.text]));simp only[Lic.cells] at a1;have W:=Eb y;generalize l.new l.next (.row [.str y.name, .str y.fam, .int .i64 y.ver, .str y.text])=H at *
  obtain⟨d',G,E,v,K⟩:=m.app (P:=prog) (ys:=pH [y]) (tk:= .full) mP Kc rz ow (λcs=>uP underlying108) (dC _) (dC _) (by simp[pH]) (by rw[sZ,RG];unfold lim;simp[pH];omega) (by rw[sZ];unfold lim;simp[pH];omega);have R:pH [y]= [y.cells]:=rfl;rw[R] at E K v;have U:pH (pre++ [y])=pH pre++ [y.cells]:=by simp[pH]
  rw[<-U] at v;clear j U R hQ A ha E0 N r0;cases q1:(y.fam==x.fam) with
  |false=>
   have f:pre++ [y].filter (uV x)=pre:=by simp[uV,q1]
   rw[f];clear f E K v
   repeat' first|simp only[go_sem, *]|apply bc<;>intro n
   exact⟨_,rfl,m⟩
  |true=>
   cases q2:decide (y.ver>=x.ver) with
   |false=>
    have f:pre++ [y].filter (uV x)=pre:=by simp only[filter_cons,uV,q1,q2];simp
    rw[f];clear f E K v
    repeat' first|simp only[go_sem, *]|apply bc<;>intro n
    exact⟨_,rfl,m⟩
   |true=>
    have f:pre++ [y].filter (uV x)=pre++ [y]:=by simp only[filter_cons,uV,q1,q2];simp
    rw[f];clear f m
    repeat' first|simp only[go_sem, *]|apply bc<;>intro n
    exact⟨_,rfl,v⟩
 ·rintro fr l ec ⟨s,f6,ai,ak,a0,f8,j⟩;rw[take_length] at j;have J:=XN ad;have a5:(c.ls.filter (uV x)).length<=1048576:=le_trans (length_filter_le _ _) s1;have hS:oH c x=(c.ls.filter (uV x)).map Lic.name:=rfl;rw[hS] at hQ;clear hS;generalize c.ls.filter (uV x)=L at *
  obtain⟨hx,n⟩:=j;rcases n with⟨_,e⟩ | ⟨id,rfl,C,hid,T,_⟩
  ·exact absurd (by simpa [pH] using e) J
  rw[sZ] at f8;have X:=Ea J a5 C;have O:∀ (ys:List Lic) r h',ys.Perm L->Ext g h'->below g.next (zi r)->Fin 1 (yR (ys.map Lic.name)) (zi r)->Q (.tuple [r, .int .i64 0]) h':=λys r h' q0 q1 q2 q3=>by
   refine hQ _ _ ⟨q1,?_,?_⟩
   ·simp only[zi,zq,below,zf];exact⟨q2,trivial,trivial⟩
   ·refine⟨ys.map Lic.name,q0.map _,?_⟩;rcases q3 with⟨_,e⟩ |e
    ·have:ys= []:=by simpa [yR] using e
     subst this;exact absurd (nil_perm.1 q0) J
    ·simp only[zi,zq,e]
  clear hQ ad A ha;have Z:g.next<=id:=le_trans E0.1 hid
  repeat' first|simp only[go_sem, *]|apply bc<;>intro n
  refine X.mono ?_;rintro r h3 ⟨rfl,ys,hp,rfl⟩;have ba:=hp.length_eq;have r1:(l.set id (.row (pH ys).flatten)).at' id=some (.row (pH ys).flatten):=zC _ _ _;have M:Ext g (l.set id (.row (pH ys).flatten)):=(E0.trans hx).set Z _;have u:id<(l.set id (.row (pH ys).flatten)).next:=T;generalize l.set id (.row (pH ys).flatten)=H at *
  have bk:=λ(h:Heap)=>tQ (P:=prog) (t:=22) (sz:=4) (id:=id) (off:=0) (len:=L.length) (h:=h) underlying22;have D:=λr h'=>O ys r h' hp;clear O X C hx E0 N r0
  repeat' first|simp only[go_sem, *]|apply bc<;>intro n
  refine zD (λi fr h=>∃o,fr 48= .rs id 4 0 L.length/\fr 49= .int .i64 (L.length:Int)/\fr 50= .int .i64 (i:Int)/\fr 11=o/\Own H h 1 (yR ((ys.take i).map Lic.name)) o) L.length ow ?_ ?_ ?_
  ·have hs:=Own.start (Ext.refl H) 1;simp only[go_sem,true_and,and_true,Int.ofNat_zero];exact⟨_,rfl,hs⟩
  ·rintro i fr h3 z ec ew ⟨o,a2,a3,a4,ag,j⟩;have B:i<ys.length:=ow;have a1:=z8 (P:=prog) (sz:=4) (id:=id) mP rz (k:= .i64) z;have a7:h3.at' id=some (.row (pH ys).flatten):=by rw[j.1.2 _ u];exact r1
   have p1:=sD (dC ys) ow (TC B);have w:(ys.take (i+1)).map Lic.name=(ys.take i).map Lic.name++ [ys[i].name]:=by rw[take_succ_eq_append_getElem B,map_append];rfl
   have I:((ys.take i).map Lic.name).length=i:=by rw[length_map,length_take];omega
   rw[w];clear w;generalize ys[i]=y at *
   generalize(ys.take i).map Lic.name=pre at *
   simp only[Lic.cells] at p1;have a9:=pV y h3 h3.next;have m:=j.ext ((Ext.refl h3).new (le_refl _) (.row [.str y.name, .str y.fam, .int .i64 y.ver, .str y.text]));have r2:(h3.new h3.next (.row [.str y.name, .str y.fam, .int .i64 y.ver, .str y.text])).at' h3.next=some (.row [.str y.name, .str y.fam, .int .i64 y.ver, .str y.text]):=zK _ _ _;have W:=pz y.name;generalize h3.new h3.next (.row [.str y.name, .str y.fam, .int .i64 y.ver, .str y.text])=h4 at *
   clear D j r1 M u
   repeat' first|simp only[go_sem, *]|apply bc<;>intro n
   refine m.appH (ys:=yR [y.name]) yq km uY ow ZD (by simp[yR]) (by rw[z7,tB,I];unfold lim;simp[yR];omega) (by rw[z7,I];unfold lim;simp[yR];omega) λd' h' V=> ?_;have a6:Own H h' 1 (yR (pre++ [y.name])) d':=by
    have:yR (pre++ [y.name])=yR pre++yR [y.name]:=by simp[yR]
    rw[this];exact V
   clear m V
   repeat' first|simp only[go_sem, *]|apply bc<;>intro n
   exact⟨_,rfl,a6⟩
  ·rintro fr h3 ec ⟨o,a2,a3,a4,ag,j⟩;rw[<-ba,take_length] at j;have q:=j.2.1.fin qF;have hq:=D o h3 (M.trans j.1) (zx (zero_le _) _ q.1) q.2;clear D q j;exact au
def szd (l:List (List Trm)):Option (List (List Trm)):=if l.length>64 then none else some l
def oI (a b:List (List Trm)):List (List Trm):=nJ (a.map mkA) (b.map mkA)
mutual
def lD (c:Cat):Ex->Option (List (List Trm))
 | .mk k n x l _=>if(k==0)=true then some [[⟨n,x⟩]] else if(k==1)=true then(match rH c n with
   |none=>none
   |some y=>szd (yZ ((oH c y).map λs=>[⟨s,[]⟩])))
  else match nf c k l true [] with
   |none=>none
   |some out=>szd (yZ out)
def nf (c:Cat) (k:Int):List Ex->Bool->List (List Trm)->Option (List (List Trm))
 | [],_,out=>some out
 |e::es,first,out=>match lD c e with
  |none=>none
  |some l=>if(k==3)=true then nf c k es false (out++l) else if first=true then nf c k es false l else match szd (yZ (oI out l)) with
   |none=>none
   |some o=>nf c k es false o
end
def Ex.Fit (c:Cat) (e:Ex):Prop:=∀x∈e.pre,x.err=0/\MO c x=0
theorem TP:∀ {l:List Ex} {e x:Ex},e∈l->x∈e.pre->x∈jv l
 |a::l,e,x,h,b=>by
  simp only[jv];rcases mem_cons.1 h with rfl|h
  ·exact mem_append_left _ b
  ·exact mem_append_right _ (TP h b)
def Ex.Fit.kid {e k:Ex} (h:e.Fit c) (a:k∈e.kids):k.Fit c:=λx b=>by
 obtain⟨g,n,f,l,d⟩:=e;exact h x (by simp only[Ex.pre];exact mem_cons_of_mem _ (TP a b))
def Ex.Fit.self (h:e.Fit c):e.err=0/\MO c e=0:=by
 obtain⟨b,n,a,l,d⟩:=e;exact h _ (by simp only[Ex.pre];exact mem_cons_self)
theorem lE {f:Nat->Int} :∀ {n:Nat},nY f n=0->∀i,i<n->f i=0
 |n+1,h,i,a=>by
  simp only[nY] at h;split at h
  ·rename_i q;rcases Nat.lt_succ_iff_lt_or_eq.1 a with g|rfl
   ·exact lE (by simpa using q) i g
   ·exact h
  ·rename_i q;exact absurd (by simpa using h) q
def Mg (h:uy c e=0):tK c=0/\e.size<=64/\e.Fit c:=by
 unfold uy at h;split at h
 ·exact absurd h (by decide)
 rename_i j;split at h
 ·rename_i q;rw[h] at q;exact absurd q (by decide)
 rename_i k;have a:p8 e=0:=by simpa using k
 unfold p8 at a;split at a
 ·exact absurd a (by decide)
 rename_i l;split at a
 ·exact absurd a (by decide)
 refine⟨by simpa using j,by simp at l;omega,λx g=> ?_⟩;obtain⟨i,b,rfl⟩:=mem_iff_getElem.1 g;rw[e.pre_len] at b;have h1:=lE a i b;have d:=lE h i b;have f:e.pre.getD i e=e.pre[i]'(by rw[e.pre_len];exact b):=by rw[getD_eq_getElem?_getD,getElem?_eq_getElem];rfl
 unfold Ex.errAt at h1;unfold Ex.unk at d;rw[f] at h1 d;exact⟨h1,d⟩
def TQ {k:Int} {n x:List UInt8} {l:List Ex} (h:(Ex.mk k n x l d).Fit c):((k=0\/k=1)/\l= []/\(k=1->x= [])/\∃y,rH c n=some y)\/((k=2\/k=3)/\2<=l.length):=by
 obtain⟨h1,f⟩:=h.self;replace h1:fZ k n x l.length=0:=h1;unfold fZ at h1;by_cases q:((k==0)||(k==1))=true
 ·left;rw[ip q] at h1;by_cases a:(decide ((l.length:Int)>0)||((k==1)&& !(x== [])))=true
  ·rw[ip a] at h1;exact absurd h1 (by decide)
  rw[iq a] at h1;by_cases b:(!tR n||(!(x== [])&& !tR x))=true
  ·rw[ip b] at h1;exact absurd h1 (by decide)
  simp only[Bool.or_eq_true,beq_iff_eq,decide_eq_true_eq,Bool.and_eq_true,Bool.not_eq_true',not_or,not_and,Bool.not_eq_false,beq_eq_false_iff_ne] at q a b;refine⟨q,length_eq_zero_iff.1 ow,λe=>by simpa using a.2 e,?_⟩;replace f:(if(!(n== [])&& !cD c n x)=true then(7:Int) else 0)=0:=f
  by_cases i:(!(n== [])&& !cD c n x)=true
  ·rw[ip i] at f;exact absurd f (by decide)
  have m:¬(n== [])=true:=λe=>by
   have:n= []:=by simpa using e
   subst this;exact absurd b.1 (by decide)
  have g:cD c n x=true:=by
   cases j:cD c n x with
   |true=>rfl
   |false=>exact absurd (by simp[j,m]) i
  unfold cD at g;simp only[Bool.and_eq_true] at g;exact Option.isSome_iff_exists.1 g.1
 ·rw[iq q] at h1;by_cases a:((k==2)||(k==3))=true
  ·rw[ip a] at h1;right;by_cases b:(decide ((l.length:Int)<2)|| !(n== [])|| !(x== []))=true
   ·rw[ip b] at h1;exact absurd h1 (by decide)
   simp only[Bool.or_eq_true,beq_iff_eq,decide_eq_true_eq,Bool.not_eq_true',not_or] at a b;exact⟨a,by omega⟩
  ·rw[iq a] at h1;exact absurd h1 (by decide)
theorem TR {l:List (List Trm)} (h:l≠[]):∀n,0<n->n<=l.length->pO l n≠[]
 |1,_,a=>by
  rw[pO,getElem?_eq_getElem ow];simp[pO,oF]
 |n+2,_,a=>by
  have b:=TR h (n+1) ow ow;rw[pO,getElem?_eq_getElem ow];simp only[oF];split
  ·exact b
  ·simp
def dD {l:List (List Trm)} (h:l≠[]):yZ l≠[]:=by
 have a:(wj l).length=l.length:=by rw[wj,(qi _).length_eq,length_map]
 have b:0<l.length:=length_pos_iff.2 h;exact TR (λe=>by rw[e] at a;simp at a;omega) _ ow (le_refl _)
def oJ (l:List (List Trm)):(yZ l).length<=l.length:=by
 have a:(wj l).length=l.length:=by rw[wj,(qi _).length_eq,length_map]
 have:=dA (l:=wj l) (wj l).length;rw[a] at this;unfold yZ;rw[a];exact this
def ZX {l m:List (List Trm)} (h:l.Perm m):yZ l=yZ m:=by
 unfold yZ wj;rw[MY fy XH (h.map tS)]
def jx {l m:List (List Trm)} (h:szd l=some m):m=l/\l.length<=64:=by
 unfold szd at h;split at h
 ·cases h
 ·cases h;exact⟨rfl,by omega⟩
structure AltsOk (n:Nat) (l:List (List Trm)):Prop where
 ne:l≠[]
 ts:∀t∈l,t≠[]/\t.length<=n
def AltsOk.mono {n m:Nat} {l:List (List Trm)} (h:AltsOk n l) (b:n<=m):AltsOk m l:=⟨h.ne,λt a=>⟨(h.ts t a).1,le_trans (h.ts t a).2 b⟩⟩
def AltsOk.min {l:List (List Trm)} (h:AltsOk n l):AltsOk n (yZ l):=⟨dD h.ne,λt b=>by
 obtain⟨y,c,rfl⟩:=XJ b;obtain⟨h1,a⟩:=h.ts y c;exact⟨TM h1,le_trans (XI _) a⟩⟩
def AltsOk.app {l m:List (List Trm)} (h:∀t∈l,t≠[]/\t.length<=n) (k:AltsOk n m):AltsOk n (l++m):=⟨λe=>k.ne (append_eq_nil_iff.1 e).2,λt a=>by
 rcases mem_append.1 a with q|q
 ·exact h t q
 ·exact k.ts t q⟩
def Rk {a b:List (List Trm)} {t:List Trm} (h:t∈oI a b):∃x∈a,∃y∈b,t=x++y:=by
 unfold oI nJ at h;obtain⟨k,c,rfl⟩:=mem_map.1 h;rw[mem_range,length_map,length_map] at c;have d:0<b.length:=by
  rcases Nat.eq_zero_or_pos b.length with e|e
  ·rw[e,Nat.mul_zero] at c;omega
  ·exact e
 have h1:k/b.length<a.length:=by rw[Nat.div_lt_iff_lt_mul d];exact c
 have f:k%b.length<b.length:=Nat.mod_lt _ d;refine⟨a[k/b.length],getElem_mem _,b[k%b.length],getElem_mem _,?_⟩;simp[jH,h1,f,mkA]
def bf (a b:List (List Trm)):(oI a b).length=a.length*b.length:=by rw[oI,be,length_map,length_map]
def AltsOk.pairs {n m:Nat} {a b:List (List Trm)} (h:AltsOk n a) (k:AltsOk m b):AltsOk (n+m) (oI a b):=by
 refine⟨λe=> ?_,λt d=> ?_⟩
 ·have:=bf a b;rw[e] at this;have h1:0<a.length:=length_pos_iff.2 h.ne;have c:0<b.length:=length_pos_iff.2 k.ne;have:=Nat.mul_pos h1 c;simp at *;omega
 ·obtain⟨x,f,y,g,rfl⟩:=Rk d;have h1:=h.ts x f;have c:=k.ts y g;exact⟨λe=>h1.1 (append_eq_nil_iff.1 e).1,by rw[length_append];omega⟩
def dE {n:List UInt8} {y:Lic} (h:rH c n=some y):oH c y≠[]:=λe=>XN (XM h) (map_eq_nil_iff.1 e)
def VF:∀n:Nat,(∀e:Ex,e.size<=n->e.Fit c->∀l,lD c e=some l->l.length<=64/\AltsOk e.size l)/\
  ∀ (k:Int) (a:List Ex),zh a<=n->(∀e∈a,e.Fit c)->∀ (m:Nat) (first:Bool) (out R:List (List Trm)),(∀t∈out,t≠[]/\t.length<=m)->(first=false->out≠[])->(a= []->out≠[])->nf c k a first out=some R->AltsOk (m+zh a) R/\R.length<=out.length+64*a.length:=by
 intro n
 induction n with
 |zero=>
  refine⟨λe h=> ?_,λk a h hf m first out R h1 B h3 b=> ?_⟩
  ·cases e;simp only[Ex.size] at h;omega
  ·cases a with
   |nil=>simp only[nf] at b;cases b;exact⟨⟨h3 rfl,by simpa [zh] using h1⟩,by simp⟩
   |cons e l=>cases e;simp only[zh,Ex.size] at h;omega
 |succ n z=>
  have key:∀e:Ex,e.size<=n+1->e.Fit c->∀l,lD c e=some l->l.length<=64/\AltsOk e.size l:=λe h hf l f=>by
   obtain⟨k,M,x,a,d⟩:=e;simp only[Ex.size] at h⊢;have G:=TQ hf;rw[lD] at f;split at f
   ·cases f;exact⟨by simp,by simp,λt p=>by cases mem_singleton.1 p;exact⟨by simp,by simp⟩⟩
   split at f
   ·split at f
    ·cases f
    ·rename_i y J;obtain⟨rfl,r⟩:=jx f;refine⟨r,AltsOk.min ⟨by simpa using dE J,λt p=> ?_⟩⟩;obtain⟨s,_,rfl⟩:=mem_map.1 p;exact⟨by simp,by simp⟩
   ·rename_i K L;split at f
    ·cases f
    ·rename_i out w;obtain⟨rfl,r⟩:=jx f;have A:2<=a.length:=by
      rcases G with⟨q,_⟩ | ⟨_,q⟩
      ·rcases q with rfl|rfl
       ·exact absurd rfl K
       ·exact absurd rfl L
      ·exact q
     have:=z.2 k a ow (λe F=>hf.kid F) 0 true [] out (λt p=>by cases p) (by simp) (λe=>by subst e;simp at A) w;exact⟨r,this.1.min.mono ow⟩
  refine⟨key,λk a h hf m first out R h1 B h3 b=> ?_⟩
  cases a with
  |nil=>simp only[nf] at b;cases b;exact⟨⟨h3 rfl,by simpa [zh] using h1⟩,by simp⟩
  |cons e a=>
   have C:0<e.size:=by cases e;simp only[Ex.size];omega
   simp only[zh] at h⊢;rw[nf] at b;split at b
   ·cases b
   ·rename_i l f;obtain⟨D,g⟩:=key e ow (hf e (by simp)) l f;have u:∀e∈a,e.Fit c:=λx I=>hf x (mem_cons_of_mem _ I);split at b
    ·have i:=AltsOk.app (n:=m+e.size) (λt p=>⟨(h1 t p).1,le_trans (h1 t p).2 ow⟩) (g.mono (show e.size<=m+e.size by omega));have:=z.2 k a ow u (m+e.size) false (out++l) R i.ts (λ_=>i.ne) (λ_=>i.ne) b;refine⟨this.1.mono ow,?_⟩;have q:=this.2;rw[length_append] at q;simp only[length_cons];omega
    ·split at b
     ·have i:=g.mono (show e.size<=m+e.size by omega);have:=z.2 k a ow u (m+e.size) false l R i.ts (λ_=>i.ne) (λ_=>i.ne) b;refine⟨this.1.mono ow,?_⟩;have q:=this.2;simp only[length_cons];omega
     ·rename_i j;have v:out≠[]:=B (by simpa using j);split at b
      ·cases b
      ·rename_i o H;obtain⟨rfl,E⟩:=jx H;have i:=(AltsOk.pairs ⟨v,h1⟩ g).min;have:=z.2 k a ow u (m+e.size) false _ R i.ts (λ_=>i.ne) (λ_=>i.ne) b;refine⟨this.1.mono ow,?_⟩;have q:=this.2;simp only[length_cons];omega
def cF:Option (List (List Trm))->D
 |some l=> .tuple [.sl 1 (zj (l.map mkA)) .no, .int .i64 0]
 |none=> .tuple [.nilsl, .int .i64 10]
def kH (l:List (List Trm)):XL l=cF (szd l):=by
 unfold XL szd;split<;>rfl
def bg (l:List (List Trm)):zi (.sl 1 (zj (l.map mkA)) .no)= .sl 1 (zj (l.map mkA)) .no/\below 0 (.sl 1 (zj (l.map mkA)) .no):=yB (TO l) .no
def rc (o:Option (List (List Trm))) (n:Nat):zi (cF o)=cF o/\below n (cF o):=by
 cases o with
 |none=>exact⟨rfl,by simp[cF,below,zf]⟩
 |some l=>
  obtain⟨h1,a⟩:=bg l;refine⟨?_,?_⟩
  ·simp only[cF,zi,zq] at h1⊢;rw[h1]
  ·simp only[cF,below,zf];exact⟨zx (Nat.zero_le _) _ a,trivial,trivial⟩
def TS (s x:List UInt8):Alt:=⟨[⟨s,x⟩], .sl 2 [[.str s, .str x]] .full⟩
def Ed (s x:List UInt8):(TS s x).Ok:=⟨zZ.mk .full,by simp[TS],by simp[TS]⟩
def zAu (s x:List UInt8):zt prog 130 [(0, .str s),(1, .str x)]=some (.agg [.str s, .str x]):=by simp[zt,uo,qt,qB,D.notTuple,D.cells,yU]
def zAv (s:List UInt8):zt prog 130 [(0, .str s)]=some (.agg [.str s, .str []]):=by simp[zt,uo,qt,qB,D.notTuple,D.cells,yU]
def Mh (s x:List UInt8) (nid:Nat) (h:Heap):zI prog false nid 128 1 [(0, .agg [.str s, .str x])] h=some (.sl 2 [[.str s, .str x]] .full,h):=
 zz (P:=prog) (x:= .agg [.str s, .str x]) yX qt yv rfl rfl ow ow rfl rfl
def ou (c:Cat) (e:Ex):D:=cF (lD c e)
def Rl (e:yt c d) {n x:List UInt8} (g:Heap):
  zA prog 91 [d, .agg [.int .i64 0, .str n, .str x,y]] g λr h'=>h'=g/\r=cF (some [[⟨n,x⟩]]):=by
 refine xU kr λa=>xS ?_;refine xP λQ b=> ?_;obtain⟨ca,cb,ce,cp,rfl,_,_,_,_⟩:=e;have h1:=zAu n x;have f:=Mh n x;have h3:=λnid h=>nc (.sl 2 [[.str n, .str x]] .full) nid h rfl rfl rfl;have i:=b (.tuple [.sl 1 [[.sl 2 [[.str n, .str x]] .full]] .full, .int .i64 0]) g ⟨Ext.refl g,by
  simp[zi,zq,uM,below,zf,tY],by simp[zi,zq,uM,cF,zj,mkA,yT,Trm.cells]⟩
 refine xO mix func91 zBx rfl rfl ?_;simp only[f91,gJ];exact au
theorem Rm (j:yt c d) (W:c.Sm) {n x:List UInt8} {z:Lic} (hf:rH c n=some z) (g:Heap):
  zA prog 91 [d, .agg [.int .i64 1, .str n, .str x,y]] g λr h'=>h'=g/\r=cF (szd (yZ ((oH c z).map λs=>[⟨s,[]⟩]))):=by
 have w:=Ec j W hf;have ak:=W.ls.1;have p:=dE hf;have ag:(oH c z).length<=c.ls.length:=by rw[oH,List.length_map];exact List.length_filter_le _ _
 refine xU kr λV=>xS ?_;refine xP λQ R=> ?_;obtain⟨ca,cb,ce,cp,rfl,_,_,_,_⟩:=j;have P:=Own.start (Ext.refl g) 1;have A:∀ (b:List (List UInt8)) (h:Heap),tU prog 31 (.sl 1 (yR b) .no) h=some (.int .i64 b.length):=λb h=>yK (zZ.mk .no) h;have l:∀ (b:List (List UInt8)) (i:Nat) (U:i<b.length),zQ prog 31 (.sl 1 (yR b) .no) (.int .i64 (i:Int))=some (.iptr [.str b[i]] 0):=λb i U=>wN (zZ.mk .no) U;refine xO mix func91 zBx rfl rfl ?_;simp only[f91,gJ]
 repeat' first|simp only[go_sem, *]|apply bc<;>intro j
 refine(w _).mono ?_;rintro r h ⟨k,b,I,rfl⟩;subst k;have ai:b.length<=1048576:=by rw[I.length_eq];omega
 have G:b≠[]:=λe=>by subst e;exact p (List.nil_perm.1 I)
 have ad:=A b;clear A w
 repeat' first|simp only[go_sem, *]|apply bc<;>intro j
 refine zD (λi fr O=>∃o,fr 35= .sl 1 (yR b) .no/\fr 36= .int .i64 (b.length:Int)/\fr 37= .int .i64 (i:Int)/\fr 6=o/\Own h O 1 (zj ((b.take i).map λs=>TS s [])) o) b.length ow ?_ ?_ ?_
 ·simp only[go_sem,true_and,and_true,Int.ofNat_zero];exact⟨_,rfl,P⟩
 ·rintro i fr O C Z ew ⟨o,K,L,N,f6,q⟩;have a1:=l b i C;have J:(b.take (i+1)).map (λs=>TS s [])=(b.take i).map (λs=>TS s [])++ [TS b[i] []]:=by rw[List.take_succ_eq_append_getElem C,List.map_append];rfl
  have B:((b.take i).map λs=>TS s []).length=i:=by rw[List.length_map,List.length_take];omega
  rw[J];clear J R l I;generalize b[i]=s at *
  generalize(b.take i).map (λs=>TS s [])=pre at *
  have b1:=zAv s;have b2:=Mh s [];have b3:=λnid h=>nc (.sl 2 [[.str s, .str []]] .full) nid h rfl rfl rfl
  repeat' first|simp only[go_sem, *]|apply bc<;>intro j
  refine q.appH (ys:=zj [TS s []]) ym wq yp ow (wA _) (by simp[zj]) (by rw[zX,qQ,B];unfold lim;simp[zj];omega) (by rw[zX,B];unfold lim;simp[zj];omega) λY h' H=> ?_;have S:Own h h' 1 (zj (pre++ [TS s []])) Y:=by
   have:zj (pre++ [TS s []])=zj pre++zj [TS s []]:=by simp[zj]
   rw[this];exact H
  clear q H
  repeat' first|simp only[go_sem, *]|apply bc<;>intro j
  exact⟨_,rfl,S⟩
 ·rintro fr O Z ⟨o,K,L,N,f6,q⟩;rw[List.take_length] at q;have m:=dB q.isSl (by simpa using G) (by rw[List.length_map];omega) (λa ha=>by
   obtain⟨s,_,rfl⟩:=List.mem_map.1 ha;exact Ed s [])
  have F:yZ ((b.map λs=>TS s []).map Alt.ts)=yZ ((oH c z).map λs=>[⟨s,[]⟩]):=by
   rw[List.map_map];exact ZX (I.map _)
  rw[F] at m;have D:yZ ((oH c z).map λs=>[⟨s,[]⟩])≠[]:=dD (by simpa using p);have E:(yZ ((oH c z).map λs=>[⟨s,[]⟩])).length<=1048576:=by
   refine Nat.le_trans (oJ _) ?_;rw[List.length_map];omega
  generalize yZ ((oH c z).map λs=>[⟨s,[]⟩])=M at *
  have f:=VE E;rw[kH] at f;have t:∀h',Ext h h'->Q (cF (szd M)) h':=λh' he=>R _ _ ⟨he,by rw[(rc _ 0).1];exact(rc _ _).2,by rw[(rc _ 0).1]⟩;have u:=q.1;clear R F I l p G q;have v:∀r,Fin 1 (zj (M.map mkA)) r->r= .sl 1 (zj (M.map mkA)) .no:=λr hr=>by
   rcases hr with⟨_,e⟩ |e
   ·exact absurd (by simpa [zj] using e) D
   ·exact e
  repeat' first|simp only[go_sem, *]|apply bc<;>intro j
  refine(m _).mono ?_;rintro r h3 ⟨k,hr⟩;subst k;have T:=v r hr;subst T;have k:=t _ u;clear t hr m u D E;cases X:szd M with
  |none=>
   rw[X] at f k;simp only[cF] at f k
   repeat' first|simp only[go_sem, *]|apply bc<;>intro j|(refine zA.mono (f _) ?_;rintro r h ⟨rfl,rfl⟩)
  |some M'=>
   rw[X] at f k;simp only[cF] at f k
   repeat' first|simp only[go_sem, *]|apply bc<;>intro j|(refine zA.mono (f _) ?_;rintro r h ⟨rfl,rfl⟩)
def Mi {l:List (List Trm)} (h0:l≠[]) {r:D} (hr:Fin 1 (zj (l.map mkA)) r):r= .sl 1 (zj (l.map mkA)) .no:=by
 rcases hr with⟨_,e⟩ |e
 ·exact absurd (by simpa [zj] using e) h0
 ·exact e
def ZY {m:Nat} {l:List (List Trm)} (h:∀t∈l,t≠[]/\t.length<=m) (b:m<=4096):∀q∈l.map mkA,q.Ok:=λq c=>by
 obtain⟨t,a,rfl⟩:=mem_map.1 c;exact TN (h t a).1 (le_trans (h t a).2 b)
def GF (l:List (List Trm)):(l.map mkA).map Alt.ts=l:=by rw[map_map];exact map_id _
structure MInv (c:Cat) (k:Int) (l:List Ex) (R:Option (List (List Trm))) (g:Heap) (i:Nat) (out:List (List Trm)) (o:D) (h:Heap):Prop where
 hE:Ext g h
 hK:nf c k (l.drop i) (i==0) out=R
 hor:k=3->Own g h 1 (zj (out.map mkA)) o
 hand:k≠3->(i=0/\out= [])\/(out≠[]/\o= .sl 1 (zj (out.map mkA)) .no/\out.length<=64)
 hts:∀t∈out,t≠[]/\t.length<=zh (l.take i)
 hol:out.length<=64*i+64
theorem Mj (D:yt c d) (hs:c.Sm):∀ (n:Nat) (e:Ex),e.size<=n->e.size<=64->e.Fit c->e.Ok->∀g:Heap,
  zA prog 91 [d, .agg e.cells] g λr h'=>h'=g/\r=ou c e:=by
 intro n
 induction n with
 |zero=>intro e h;cases e;simp only[Ex.size] at h;omega
 |succ n ih=>
 intro e hn W J S g;obtain⟨k,nm,x,l,dd⟩:=e;have I:(Ex.mk k nm x l dd).cells= [.int .i64 k, .str nm, .str x,dd]:=rfl;rw[I];simp only[Ex.size] at hn W;have F:∀ (i:Nat) (hi:i<l.length),l[i].Fit c/\l[i].Ok/\∀g:Heap,zA prog 91 [d, .agg l[i].cells] g λr h'=>h'=g/\r=ou c l[i]:=λi hi=>by
  have Z:=getElem_mem hi;have h1:l[i].Fit c:=J.kid (e:= .mk k nm x l dd) Z;have h2:l[i].Ok:=uA (by simp only[Ex.Ok] at S;exact S.2.2.2.2) _ Z;have h3:=yY Z;exact⟨h1,h2,ih _ ow ow h1 h2⟩
 rcases TQ J with⟨hk,hl,hx,y,hy⟩ | ⟨hk,b8⟩
 ·rcases hk with rfl|rfl
  ·refine(Rl D (n:=nm) (x:=x) (y:=dd) g).mono λr h' ⟨q1,q2⟩=>⟨q1,?_⟩;rw[q2];simp[ou,lD]
  ·refine(Rm D hs hy (x:=x) (y:=dd) g).mono λr h' ⟨q1,q2⟩=>⟨q1,?_⟩;rw[q2];simp[ou,lD,hy]
 have e0:(k==0)=false:=by rcases hk with rfl|rfl<;>rfl
 have e1:(k==1)=false:=by rcases hk with rfl|rfl<;>rfl
 have hR:lD c (.mk k nm x l dd)=match nf c k l true [] with
  |none=>none
  |some out=>szd (yZ out):=by rw[lD,iq (by rw[e0];exact Bool.false_ne_true),iq (by rw[e1];exact Bool.false_ne_true)];try (cases nf c k l true []<;>rfl)
 have N:∀R,nf c k l true []=some R->AltsOk 64 R/\R.length<=64*l.length:=λR hR=>by
  have:=(VF (c:=c) (zh l)).2 k l (le_refl _) (λe he=>J.kid (e:= .mk k nm x l dd) he) 0 true [] R (λt V=>by cases V) (by simp) (λe=>by subst e;simp at b8) hR;exact⟨this.1.mono ow,by simpa using this.2⟩
 have cm:l.length<=64:=by
  have:∀l:List Ex,l.length<=zh l:=λl=>by
   induction l with
   |nil=>simp
   |cons e l ih=>simp only[zh,length_cons];cases e;simp only[Ex.size];omega
  have:=this l;omega
 have a6:zZ 4 (exs l) dd:=by simp only[Ex.Ok] at S;exact S.1
 have z:=λ(e:Ex) (he:e.Fit c) (l:List (List Trm)) (hl:lD c e=some l)=>(VF (c:=c) e.size).1 e (le_refl _) he l hl;have a3:∀i (hi:i<l.length),zh (l.take (i+1))=zh (l.take i)+l[i].size/\zh (l.take (i+1))<=zh l:=λi hi=>by
  have app:∀a b:List Ex,zh (a++b)=zh a+zh b:=λa b=>by
   induction a with
   |nil=>simp[zh]
   |cons e a ih=>simp only[cons_append,zh,ih];omega
  refine⟨by rw[take_succ_eq_append_getElem hi,app];simp[zh],?_⟩;have:=app (l.take (i+1)) (l.drop (i+1));rw[take_append_drop] at this;omega
 obtain⟨R,eR⟩:∃R,nf c k l true []=R:=⟨_,rfl⟩;refine xU kr λch=>xS ?_;refine xP λQ hQ=> ?_;have p:∀h',Ext g h'->Q (ou c (.mk k nm x l dd)) h':=λh' he=>hQ _ _ ⟨he,by unfold ou;rw[(rc _ 0).1];exact(rc _ _).2,by unfold ou;rw[(rc _ 0).1]⟩;unfold ou at p;rw[hR,eR] at p;rw[eR] at N;clear hQ hR J S ih I;obtain⟨ca,cb,ce,cp,rfl,_,_,_,_⟩:=D;have cg:=uB a6;have b6:=Own.start (Ext.refl g) 1;refine xO mix func91 zBx rfl rfl ?_;simp only[f91,gJ]
 repeat' first|simp only[go_sem, *]|apply bc<;>intro D
 refine zD (λi fr h=>∃out o,fr 2= .iptr [ca,cb,ce,cp] 0/\fr 3= .iptr [.int .i64 k, .str nm, .str x,dd] 0/\fr 54=dd/\fr 55= .int .i64 (l.length:Int)/\fr 56= .int .i64 (i:Int)/\fr 6=o/\MInv c k l R g i out o h) l.length ow ?_ ?_ ?_
 ·have h0:MInv c k l R g 0 [] .nilsl g:=⟨Ext.refl g,eR,λ_=>b6,λ_=> .inl ⟨rfl,rfl⟩,λt V=>(by cases V),by simp⟩;simp only[go_sem,true_and,and_true,Int.ofNat_zero];exact⟨_,_,rfl,h0⟩
 ·rintro i fr h Y ec ew ⟨out,o,f2,f3,b3,b4,b5,f6,⟨hE,j,T,s,w,ad⟩⟩;have a1:=rX a6 Y;obtain⟨kf,ko,kc⟩:=F i Y;obtain⟨s1,s2⟩:=a3 i Y;have cc:=MM l[i] (Ex.flat ko) h h.next;have K:=hE.new hE.1 (.row l[i].cells);have bs:(h.new h.next (.row l[i].cells)).at' h.next=some (.row l[i].cells):=zK _ _ _;rw[drop_eq_getElem_cons Y,nf] at j;have ag:=z _ kf;have ai:Ext h (h.new h.next (.row l[i].cells)):=(Ext.refl h).new (le_refl _) _;have A:k=3->Own g (h.new h.next (.row l[i].cells)) 1 (zj (out.map mkA)) o:=λe=>(T e).ext ai;generalize hy:l[i]=y at *
  simp only[Ex.cells] at a1 kc cc K bs A ai;generalize hH:h.new h.next (.row [.int .i64 y.kind, .str y.name, .str y.exc,y.d])=H at *
  clear F a3 z T;have a8:((i:Int)==0)=(i==0):=by cases i<;>rfl
  have cl:(i+1==0)=false:=rfl;cases Z:lD c y with
  |none=>
   rw[Z] at j;simp only at j;have m:=p H K;rw[<-j] at m;simp only[cF] at m;have O:ou c y= .tuple [.nilsl, .int .i64 10]:=by unfold ou;rw[Z];rfl
   rw[O] at kc;clear O p A s w j
   repeat' first|simp only[go_sem, *]|apply bc<;>intro D|(refine zA.mono (kc _) ?_;rintro r h ⟨m,rfl⟩)
  |some C=>
   rw[Z] at j;simp only at j;obtain⟨W,u⟩:=ag C Z;have O:ou c y= .tuple [.sl 1 (zj (C.map mkA)) .no, .int .i64 0]:=by unfold ou;rw[Z];rfl
   rw[O] at kc;clear O ag;cases q3:(k==3) with
   |true=>
    rw[ip q3] at j;have v:k=3:=by simpa using q3
    have bk:=A v;clear s A p
    repeat' first|simp only[go_sem, *]|apply bc<;>intro D|(refine zA.mono (kc _) ?_;rintro r h ⟨m,rfl⟩)
    subst m;refine bk.appH (ys:=zj (C.map mkA)) ym wq yp ow (wA _) (by simpa [zj] using u.ne) (by rw[zX,zX,length_map,length_map,qQ];unfold lim;omega) (by rw[zX,zX,length_map,length_map];unfold lim;omega) λd' h' ba=> ?_;have a2:Own g h' 1 (zj ((out++C).map mkA)) d':=by
     have:zj ((out++C).map mkA)=zj (out.map mkA)++zj (C.map mkA):=by simp[zj]
     rw[this];exact ba
    have B:MInv c k l R g (i+1) (out++C) d' h':=⟨a2.1,j,λ_=>a2,λq=>absurd v q,λt V=>by
     rcases mem_append.1 V with q|q
     ·exact⟨(w t q).1,le_trans (w t q).2 ow⟩
     ·exact⟨(u.ts t q).1,le_trans (u.ts t q).2 ow⟩,by rw[length_append];omega⟩
    clear ba bk j w ad u a2 v
    repeat' first|simp only[go_sem, *]|apply bc<;>intro D
    exact⟨_,_,rfl,B⟩
   |false=>
    rw[iq (by rw[q3];exact Bool.false_ne_true)] at j;have v:k≠3:=by simpa using q3
    have E:=s v;clear s A;cases q0:(i==0) with
    |true=>
     rw[ip q0] at j;have B:MInv c k l R g (i+1) C (.sl 1 (zj (C.map mkA)) .no) H:=⟨K,j,λq=>absurd q v,λ_=> .inr ⟨u.ne,rfl,W⟩,λt V=>⟨(u.ts t V).1,le_trans (u.ts t V).2 ow⟩,by omega⟩;clear j w ad u E p;rw[q0] at a8
     repeat' first|simp only[go_sem, *]|apply bc<;>intro D|(refine zA.mono (kc _) ?_;rintro r h ⟨m,rfl⟩)
     subst m;exact⟨_,_,rfl,B⟩
    |false=>
     rw[iq (by rw[q0];exact Bool.false_ne_true)] at j;rw[q0] at a8;obtain⟨ak,ho,bb⟩:out≠[]/\o= .sl 1 (zj (out.map mkA)) .no/\out.length<=64:=by
      rcases E with⟨q,_⟩ |q
      ·subst q;exact absurd q0 (by decide)
      ·exact q
     subst ho;have U:=AltsOk.pairs ⟨ak,w⟩ u;have b1:=ZY w ow;have b2:=ZY u.ts ow;have a5:=EZ (zZ.mk (sz:=1) (xs:=zj (out.map mkA)) .no) (zZ.mk (sz:=1) (xs:=zj (C.map mkA)) .no);have au:=Rj (zZ.mk (sz:=1) (xs:=zj (out.map mkA)) .no) (zZ.mk (sz:=1) (xs:=zj (C.map mkA)) .no) b1 b2 (by rw[length_map];omega) (by rw[length_map];omega);have bo:nJ (out.map mkA) (C.map mkA)=oI out C:=rfl;rw[bo] at au;have cs:(oI out C).length<=4096:=by
      rw[bf];exact le_trans (Nat.mul_le_mul bb W) ow
     have G:=dB (zZ.mk (sz:=1) (xs:=zj ((oI out C).map mkA)) .no) (by simpa using U.ne) (by rw[length_map];omega) (ZY U.ts ow);rw[GF] at G;have z:=U.min;have a9:=z.ne;have a0:(yZ (oI out C)).length<=1048576:=le_trans (oJ _) ow;have a7:=λr hr=>Mi U.ne (r:=r) hr;have L:=λr hr=>Mi z.ne (r:=r) hr;generalize oI out C=P at *
     generalize hM:yZ P=M at *
     have f:=VE a0;rw[kH] at f;clear bo U b1 b2 w ad u E ak
     repeat' first|simp only[go_sem, *]|apply bc<;>intro D|(refine zA.mono (kc _) ?_;rintro r h ⟨m,rfl⟩)
     subst m;clear kc;refine(a5 _).mono ?_;rintro r h1 ⟨m,rfl⟩;subst m;clear a5
     repeat' first|simp only[go_sem, *]|apply bc<;>intro D
     refine(au _).mono ?_;rintro r h2 ⟨m,hr⟩;subst m;have hr:=a7 r hr;subst hr;clear au
     repeat' first|simp only[go_sem, *]|apply bc<;>intro D
     refine(G _).mono ?_;rintro r h3 ⟨m,hr⟩;subst m;have hr:=L r hr;subst hr;clear G a7 L;cases hz:szd M with
     |none=>
      rw[hz] at j f;simp only at j;have m:=p _ K;rw[<-j] at m;simp only[cF] at m f;clear p j z a9
      repeat' first|simp only[go_sem, *]|apply bc<;>intro D|(refine zA.mono (f _) ?_;rintro r h ⟨rfl,rfl⟩)
     |some M'=>
      obtain⟨rfl,a4⟩:=jx hz;rw[hz] at j f;simp only at j;simp only[cF] at f;have B:MInv c k l R g (i+1) M' (.sl 1 (zj (M'.map mkA)) .no) h3:=⟨K,j,λq=>absurd q v,λ_=> .inr ⟨a9,rfl,a4⟩,λt V=>by rw[s1];exact z.ts t V,by omega⟩;clear p j z
      repeat' first|simp only[go_sem, *]|apply bc<;>intro D|(refine zA.mono (f _) ?_;rintro r h ⟨rfl,rfl⟩)
      exact⟨_,_,rfl,B⟩
 ·rintro fr h ec ⟨out,o,f2,f3,b3,b4,b5,f6,⟨hE,j,T,s,w,ad⟩⟩;have b7:l.drop l.length= []:=drop_length;rw[b7,nf] at j;obtain⟨X,cf⟩:=N out j.symm;have bx:zZ 1 (zj (out.map mkA)) o:=by
   by_cases v:k=3
   ·exact(T v).isSl
   ·rcases s v with⟨q,_⟩ | ⟨_,q,_⟩
    ·omega
    ·rw[q];exact zZ.mk .no
  have G:=dB bx (by simpa using X.ne) (by rw[length_map];omega) (ZY X.ts ow);rw[GF] at G;have L:=λr hr=>Mi X.min.ne (r:=r) hr;have a0:(yZ out).length<=1048576:=le_trans (oJ _) ow;have f:=VE a0;rw[kH] at f;have m:=p _ hE;rw[<-j] at m;simp only at m;clear p N T s w X bx F z a3 j;generalize yZ out=M at *
  repeat' first|simp only[go_sem, *]|apply bc<;>intro D
  refine(G _).mono ?_;rintro r h3 ⟨b9,hr⟩;subst b9;have hr:=L r hr;subst hr;clear G L;cases hz:szd M with
  |none=>
   rw[hz] at f m;simp only[cF] at m f
   repeat' first|simp only[go_sem, *]|apply bc<;>intro D|(refine zA.mono (f _) ?_;rintro r h ⟨rfl,rfl⟩)
  |some M'=>
   rw[hz] at f m;simp only[cF] at m f
   repeat' first|simp only[go_sem, *]|apply bc<;>intro D|(refine zA.mono (f _) ?_;rintro r h ⟨rfl,rfl⟩)
def ofD (c:Cat) (e:Ex):D:=if(uy c e==0)=true then ou c e else .tuple [.nilsl, .int .i64 (uy c e)]
def Ee (i:yt c d) (o:c.Sm) (k:e.Ok) (m:e.size<=1048576) (g:Heap):
  zA prog 44 [d, .agg e.cells] g λr h'=>h'=g/\r=ofD c e:=by
 have b:=fe i o k m;have j:=λ(h:uy c e=0)=>Mj i o e.size e (le_refl _) (Mg h).2.1 (Mg h).2.2 k;obtain⟨ca,cb,ce,cp,rfl,_,_,_,_⟩:=i;refine xP λQ p=> ?_;have f:=p (ofD c e) g ⟨rfl,rfl⟩;unfold ofD at f;simp only[Ex.cells] at b j⊢;refine xO mix func44 zGp rfl rfl ?_;simp only[f44,gJ];cases q:(uy c e==0) with
 |false=>
  rw[iq (by rw[q];exact Bool.false_ne_true)] at f
  repeat' first|simp only[go_sem, *]|apply bc<;>intro i|(refine zA.mono (b _) ?_;rintro r h ⟨rfl,rfl⟩)
 |true=>
  rw[ip q] at f;have a:=j (by simpa using q);unfold ou at f a;cases n:lD c e with
  |none=>
   rw[n] at f a;simp only[cF] at f a
   repeat' first|simp only[go_sem, *]|apply bc<;>intro i|(refine zA.mono (b _) ?_;rintro r h ⟨rfl,rfl⟩)|(refine zA.mono (a _) ?_;rintro r h ⟨rfl,rfl⟩)
  |some l=>
   rw[n] at f a;simp only[cF] at f a
   repeat' first|simp only[go_sem, *]|apply bc<;>intro i|(refine zA.mono (b _) ?_;rintro r h ⟨rfl,rfl⟩)|(refine zA.mono (a _) ?_;rintro r h ⟨rfl,rfl⟩)
def X0 (l:List (List Trm)):D:= .sl 1 (zj (l.map mkA)) .no
def ZZ (l:List (List (List Trm))):List (List D):=l.map λa=>[X0 a]
def sd (l:List (List (List Trm))):(ZZ l).length=l.length:=List.length_map ..
def Jo {l:List (List (List Trm))} (h:i<l.length):(ZZ l)[i]? =some [X0 l[i]]:=by simp[ZZ,h]
def Jp (l:List (List (List Trm))):∀x∈ZZ l,x.length=1:=λx a=>by
 obtain⟨s,_,rfl⟩:=List.mem_map.1 a;rfl
def Rn (l:List (List (List Trm))):∀x∈ZZ l,yf x:=λx b=>by
 obtain⟨s,_,rfl⟩:=List.mem_map.1 b;obtain⟨h1,a⟩:=bg s;exact⟨rfl,by simp only[zf];exact⟨a,trivial⟩,by simp only[zq,X0];rw[h1]⟩
def sw {l:List (List (List Trm))} (a:zZ 1 (ZZ l) d) (h:Heap):tU prog 61 d h=some (.int .i64 l.length):=by rw[yc a underlying61,sd]
def dF {l:List (List (List Trm))} (a:zZ 1 (ZZ l) d) (b:i<l.length):zQ prog 61 d (.int .i64 (i:Int))=some (.iptr [X0 l[i]] 0):=zb a oU mQ (Jo b)
def jX (c:Cat) (e:Ex):Int:=if(uy c e==0)=true then(match lD c e with
 |some _=>0
 |none=>10) else uy c e
def ofL (c:Cat) (e:Ex):List (List Trm):=(lD c e).getD []
abbrev zFS:=List (List (List Trm)) ×List (List UInt8) ×Int
def jy (c:Cat):List Fac->List (List (List Trm))->List (List UInt8)->zFS
 | [],t,o=>(t,o,0)
 |f::fs,t,o=>if(f.kind==1)=true then(if(jX c f.e==0)=true then jy c fs (t++ [ofL c f.e]) o else([],[],jX c f.e))
  else if(f.kind==2)=true then jy c fs t (if(o.any (· ==f.out))=true then o else o++ [f.out]) else jy c fs t o
def za (c:Cat) (l:List Fac):zFS:=if(!((qn c l).2==0))=true then([],[],(qn c l).2) else jy c l [] []
def zAw (h:(jX c e==0)=true):ofD c e= .tuple [X0 (ofL c e), .int .i64 0]:=by
 unfold jX at h;unfold ofD ofL ou;split at h
 ·rename_i q;rw[ip q];split at h
  ·rename_i l a;rw[a];rfl
  ·exact absurd h (by decide)
 ·rename_i q;exact absurd h q
def Ef (h:(jX c e==0)=false):ofD c e= .tuple [.nilsl, .int .i64 (jX c e)]:=by
 unfold jX at h⊢;unfold ofD ou;split at h
 ·rename_i q;rw[ip q,ip q];split at h
  ·exact absurd h (by decide)
  ·rename_i a;rw[a];rfl
 ·rename_i q;rw[iq q,iq q]
def Eg (a:List (List Trm)) (nid:Nat) (h:Heap):zI prog false nid 61 1 [(0,X0 a)] h=some (.sl 1 [[X0 a]] .full,h):=
 zz (P:=prog) (x:=X0 a) oU V3 mQ rfl rfl ow ow rfl rfl
structure ValI (c:Cat) (l:List Fac) (R:zFS) (g:Heap) (i:Nat) (t:List (List (List Trm))) (o:List (List UInt8)) (td od:D) (h:Heap):Prop where
 own:Own2 g h 1 (ZZ t) td 1 (yR o) od
 eq:jy c (l.drop i) t o=R
 tl:t.length<=i
 ol:o.length<=i
theorem jz (q:yt c d) (hs:c.Sm) {l:List Fac} (X:zZ 12 (nb l) x) (hl:l.length<=1048576) (w:∀f∈l,f.Ok) (g:Heap):
  zA prog 20 [d,x] g λr h'=>h'=g/\∃td od,r= .tuple [td,od, .int .i64 (za c l).2.2]/\Fin 1 (ZZ (za c l).1) td/\Fin 1 (yR (za c l).2.1) od:=by
 have z:=W6 q hs X hl w;have T:=λf (hf:f∈l)=>Ee q hs (w f hf).e (w f hf).es;have Z:=uR X;have ag:=nZ;obtain⟨ca,cb,ce,cp,rfl,_,_,_,_⟩:=q;refine xU kr λad=>xS ?_;refine xP λQ I=> ?_;have P:=Own2.start (Ext.refl g) 1 1;refine xO mix func20 zGo rfl rfl ?_;simp only[f20,gJ];cases q1:((qn c l).2==0) with
 |false=>
  have C:za c l=([],[],(qn c l).2):=by unfold za;rw[q1];rfl
  have y:=I (.tuple [.nilsl, .nilsl, .int .i64 (qn c l).2]) g ⟨Ext.refl g,by simp[zi,zq,below,zf], .nilsl, .nilsl,by rw[C];rfl, .inl ⟨rfl,by rw[C];rfl⟩, .inl ⟨rfl,by rw[C];rfl⟩⟩
  repeat' first|simp only[go_sem, *]|apply bc<;>intro q|(refine zA.mono (z _) ?_;rintro r h ⟨rfl,rfl⟩)
 |true=>
 have C:za c l=jy c l [] []:=by unfold za;rw[q1];rfl
 obtain⟨R,Y⟩:∃R,jy c l [] []=R:=⟨_,rfl⟩;rw[C,Y] at I
 repeat' first|simp only[go_sem, *]|apply bc<;>intro q|(refine zA.mono (z _) ?_;rintro r h ⟨y,rfl⟩)
 refine zD (λi fr h=>∃t o td od,fr 2= .iptr [ca,cb,ce,cp] 0/\fr 24=x/\fr 25= .int .i64 (l.length:Int)/\fr 26= .int .i64 (i:Int)/\fr 9=td/\fr 10=od/\ValI c l R g i t o td od h) l.length ow ?_ ?_ ?_
 ·have h0:ValI c l R g 0 [] [] .nilsl .nilsl g:=⟨P,Y,Nat.le_refl _,Nat.le_refl _⟩;simp only[go_sem,true_and,and_true,Int.ofNat_zero];exact⟨_,_,_,_,rfl,rfl,h0⟩
 ·clear z;rintro i fr u v ec ew ⟨t,o,td,od,f2,M,N,O,f9,L,⟨n,m,W,U⟩⟩;have a1:=qZ X v;have S:=w _ (List.getElem_mem v);have s:=T _ (List.getElem_mem v);have V:=Y5 S u u.next;rw[List.drop_eq_getElem_cons v,jy] at m;have G:(u.new u.next (.row l[i].cells)).at' u.next=some (.row l[i].cells):=zK _ _ _;have j:=n.ext ((Ext.refl u).new (Nat.le_refl _) (.row l[i].cells));have p:=λ(h:Heap)=>pF n.b.isSl (by omega:o.length<=1048576) l[i].out h;generalize l[i]=f at *
  simp only[Fac.cells,Ex.cells] at a1 V G j s;generalize hH:u.new u.next (.row [.int .i64 f.kind, .str f.comp, .str f.out, .int .i64 f.rel, .int .i64 f.way, .int .i64 f.duty, .bool f.chg, .int .i64 f.e.kind, .str f.e.name, .str f.e.exc,f.e.d,f.d])=H at *
  have ai:zM true 4 [.int .i64 f.kind, .str f.comp, .str f.out, .int .i64 f.rel, .int .i64 f.way, .int .i64 f.duty, .bool f.chg, .int .i64 f.e.kind, .str f.e.name, .str f.e.exc,f.e.d,f.d] 7=some (.agg [.int .i64 f.e.kind, .str f.e.name, .str f.e.exc,f.e.d]):=rfl;cases q2:(f.kind==1) with
  |true=>
   rw[ip q2] at m;cases B:(jX c f.e==0) with
   |true=>
    rw[ip B] at m;rw[zAw B] at s;have F:=Eg (ofL c f.e)
    repeat' first|simp only[go_sem, *]|apply bc<;>intro q|(refine zA.mono (s _) ?_;rintro r h ⟨y,rfl⟩)
    subst y;refine j.appH (zs:=ZZ [ofL c f.e]) oU Qv mQ ow (Jp _) (by simp[ZZ]) (by rw[sd,sd,YR];unfold lim;simp;omega) (by rw[sd,sd];unfold lim;simp;omega) λK h' A=> ?_;have k:ValI c l R g (i+1) (t++ [ofL c f.e]) o K od h':=⟨by
     have:ZZ (t++ [ofL c f.e])=ZZ t++ZZ [ofL c f.e]:=by simp[ZZ]
     rw[this];exact A,m,by simp;omega,by omega⟩
    repeat' first|simp only[go_sem, *]|apply bc<;>intro q
    exact⟨_,_,_,_,rfl,rfl,k⟩
   |false=>
    rw[iq (by rw[B];exact Bool.false_ne_true)] at m;rw[Ef B] at s;have y:=I (.tuple [.nilsl, .nilsl, .int .i64 (jX c f.e)]) H ⟨j.a.1,by simp[zi,zq,below,zf], .nilsl, .nilsl,by rw[<-m];rfl, .inl ⟨rfl,by rw[<-m];rfl⟩, .inl ⟨rfl,by rw[<-m];rfl⟩⟩
    repeat' first|simp only[go_sem, *]|apply bc<;>intro q|(refine zA.mono (s _) ?_;rintro r h ⟨rfl,rfl⟩)
  |false=>
   rw[iq (by rw[q2];exact Bool.false_ne_true)] at m;cases B:(f.kind==2) with
   |true=>
    rw[ip B] at m;cases J:(o.any (· ==f.out)) with
    |true=>
     rw[ip J] at m;rw[J] at p;have k:ValI c l R g (i+1) t o td od H:=⟨j,m,by omega,by omega⟩
     repeat' first|simp only[go_sem, *]|apply bc<;>intro q|(refine zA.mono (p _) ?_;rintro r h ⟨y,rfl⟩)
     subst y;exact⟨_,_,_,_,rfl,rfl,k⟩
    |false=>
     rw[iq (by rw[J];exact Bool.false_ne_true)] at m;rw[J] at p;have F:=pz f.out
     repeat' first|simp only[go_sem, *]|apply bc<;>intro q|(refine zA.mono (p _) ?_;rintro r h ⟨y,rfl⟩)
     subst y;refine j.swap.appH (zs:=yR [f.out]) yq km uY ow ZD (by simp[yR]) (by rw[z7,tB];unfold lim;simp[yR];omega) (by rw[z7];unfold lim;simp[yR];omega) λK h' A=> ?_;have k:ValI c l R g (i+1) t (o++ [f.out]) td K h':=⟨by
      have:yR (o++ [f.out])=yR o++yR [f.out]:=by simp[yR]
      rw[this];exact A.swap,m,by omega,by simp;omega⟩
     repeat' first|simp only[go_sem, *]|apply bc<;>intro q
     exact⟨_,_,_,_,rfl,rfl,k⟩
   |false=>
    rw[iq (by rw[B];exact Bool.false_ne_true)] at m;have k:ValI c l R g (i+1) t o td od H:=⟨j,m,by omega,by omega⟩
    repeat' first|simp only[go_sem, *]|apply bc<;>intro q
    exact⟨_,_,_,_,rfl,rfl,k⟩
 ·rintro fr u ec ⟨t,o,td,od,f2,M,N,O,f9,L,⟨n,m,W,U⟩⟩;rw[List.drop_length,jy] at m;have D:=n.a.2.1.fin (Rn t);have E:=n.b.2.1.fin (qF (l:=o));have y:=I (.tuple [td,od, .int .i64 0]) u ⟨n.a.1,by
   simp only[zi,zq,below,zf];exact⟨zx (Nat.zero_le _) _ D.1,zx (Nat.zero_le _) _ E.1,trivial,trivial⟩,zi td,zi od,by rw[<-m];rfl,by rw[<-m];exact D.2,by rw[<-m];exact E.2⟩
  exact au
def X1 (a b:List Trm):Bool:=jG zR a b==0
def lF (a b:List Trm):X1 a b=true↔a=b:=by
 unfold X1;constructor
 ·intro h;exact ZR mz _ _ (by simpa using h)
 ·rintro rfl;simp[oD.list.refl]
def Eh (a b:Nat):((a:Int)==(b:Int))=(a==b):=by
 by_cases h:a=b
 ·simp[h]
 ·rw[beq_eq_false_iff_ne.2 h,beq_eq_false_iff_ne.2 ow]
def Ei (x y:Trm) (c:Bool):pb prog .neq 130 c (.agg [.str x.a, .str x.b]) (.agg [.str y.a, .str y.b])=some (.bool (!(zR x y==0))):=by
 have d:eqT prog 130=some [.s, .s]:=by kernel_rfl
 rw[oZ];simp only[pb,d,Tn,eqK,Option.map_some,Bool.and_true,tE]
def Jq {a b:List Trm} (B:zZ 2 (yT a) x) (C:zZ 2 (yT b) y) (K:a.length<=1048576) (g:Heap):
  zA prog 78 [x,y] g λr h'=>h'=g/\r= .bool (X1 a b):=by
 have L:=yr B;have M:=yr C;refine xP λQ s=> ?_;have j:=s _ _ ⟨rfl,rfl⟩;clear s;refine xO mix func78 zGg rfl rfl ?_;simp only[f78,gJ];cases q:((a.length:Int)==(b.length:Int)) with
 |false=>
  have p:X1 a b=false:=by
   cases h:X1 a b with
   |false=>rfl
   |true=>rw[(lF _ _).1 h] at q;simp at q
  rw[p] at j;simp only[go_sem, *]
 |true=>
 have o:a.length<=b.length/\b.length<=a.length:=by have:=of_decide_eq_true q;omega
 obtain⟨t,w⟩:=o;simp only[go_sem, *];refine zD (λi fr h=>fr 0=x/\fr 1=y/\fr 12= .int .i64 (a.length:Int)/\fr 13= .int .i64 (i:Int)/\h=g/\a.take i=b.take i) a.length ow ?_ ?_ ?_
 ·simp only[go_sem,true_and,and_true,Int.ofNat_zero];rfl
 ·rintro i fr h f F J ⟨G,H,l,m,rfl,d⟩;have c:i<b.length:=ow;have D:=uT B f;have E:=uT C c;have z:=Ei a[i] b[i];have h1:∀ (e:(zR a[i] b[i]==0)=true),a.take (i+1)=b.take (i+1):=λe=>by
   have I:=mz a[i] b[i] (by simpa using e);rw[List.take_succ_eq_append_getElem f,List.take_succ_eq_append_getElem c,d,I]
  have n:∀ (e:(zR a[i] b[i]==0)=false),X1 a b=false:=λe=>by
   cases h:X1 a b with
   |false=>rfl
   |true=>
    have:=(lF _ _).1 h;subst this;rw[oD.refl] at e;exact absurd e (by decide)
  generalize a[i]=u at *
  generalize b[i]=v at *
  simp only[Trm.cells] at D E;cases k:(zR u v==0) with
  |true=>
   have A:=h1 k;rw[k] at z;clear h1 n d j;simp only[go_sem, *];refine zU kr ?_;simp only[go_sem, *]
  |false=>
   rw[n k] at j;rw[k] at z;clear h1 n d;simp only[go_sem, *];refine zU kr ?_;exact au
 ·rintro fr h F ⟨G,H,l,m,rfl,d⟩
  have:a=b:=by
   rw[List.take_length,show a.length=b.length by omega,List.take_length] at d;exact d
  rw[(lF _ _).2 this] at j;clear d this;exact au
def zFT {a b:List Trm} (e:zZ 2 (yT a) x) (f:zZ 2 (yT b) y) (d:a.length<=1048576) (i:g.at' id=some (.row [x])):
  zA prog 77 [y, .ptr id 0] g λr h'=>h'=g/\r= .bool (X1 a b):=by
 have c:=Jq e f d;refine xO mix func77 zGc rfl rfl ?_;simp only[f77,gJ]
 repeat' first|simp only[go_sem, *]|apply bc<;>intro c|(refine zA.mono (c _) ?_;rintro r h ⟨rfl,rfl⟩)
def XO {l:List Lic} (n:zZ 4 (pH l) d) (C:l.length<=1048576) {p:Lic->Bool} (z:∀s∈l,zA prog f ([]++ [.agg s.cells]++cap) g λr h'=>h'=g/\r= .bool (p s)):
  zA prog 150 [d, .fn (.func f) [] cap] g λr h'=>h'=g/\r= .int .i64 (Zr p l):=by
 have o:=qz n;refine xO mix func150 AB rfl rfl ?_;simp only[f150,gJ]
 repeat' first|simp only[go_sem, *]|apply bc<;>intro m
 refine zD (λi fr h=>fr 1= .fn (.func f) [] cap/\fr 0=d/\fr 6=d/\fr 7= .int .i64 (l.length:Int)/\fr 8= .int .i64 (i:Int)/\h=g/\∀j (b:j<l.length),j<i->p l[j]=false) l.length ow ?_ ?_ ?_
 ·simp only[go_sem,true_and,and_true,Int.ofNat_zero];exact λj b h0=>by omega
 ·rintro i fr h a e1 B ⟨u,t,v,w,x,rfl,b⟩;have q:=wx n a;have e:=z _ (List.getElem_mem a);simp only[List.nil_append,List.cons_append,Lic.cells] at e;simp only[Lic.cells] at q;cases k:p l[i] with
  |true=>
   have A:=p4 a b k;rw[k] at e
   repeat' first|simp only[go_sem, *]|apply bc<;>intro m|(refine zA.mono e ?_;rintro r h ⟨rfl,rfl⟩)
  |false=>
   have y:=qM (p:=p) a b k;rw[k] at e
   repeat' first|simp only[go_sem, *]|apply bc<;>intro m|(refine zA.mono e ?_;rintro r h ⟨rfl,rfl⟩)
   exact y
 ·rintro fr h e1 ⟨u,t,v,w,x,rfl,b⟩;have A:=p5 (p:=p) λj c=>b j c c;exact au
def dG {l:List Lic} (b:zZ 4 (pH l) d) (e:l.length<=1048576) {p:Lic->Bool} (i:∀s∈l,zA prog f ([]++ [.agg s.cells]++cap) g λr h'=>h'=g/\r= .bool (p s)):
  zA prog 79 [d, .fn (.func f) [] cap] g λr h'=>h'=g/\r= .bool (l.any p):=by
 have a:=XO b e i;have c:=p0 (l:=l) (p:=p);refine xO mix func79 zGl rfl rfl ?_;simp only[f79,gJ]
 repeat' first|simp only[go_sem, *]|apply bc<;>intro j|(refine zA.mono a ?_;rintro r h ⟨rfl,rfl⟩)
def zFU (x:Lic) (s:List UInt8) (a:g.at' id=some (.row [.str s])):
  zA prog 80 [.agg x.cells, .ptr id 0] g λr h'=>h'=g/\r= .bool (x.name==s):=by
 refine xO mix func80 zGr rfl rfl ?_;simp only[f80,gJ];simp only[Lic.cells];exact au
structure Cho where
 ts:List Alt
 own:List (List UInt8)
structure Alt.Sm (a:Alt):Prop where
 sl:zZ 2 (yT a.ts) a.d
 len:a.ts.length<=1048576
def Ej (y:Cho) (d:D):Prop:=∃a b,d= .agg [a,b]/\zZ 1 (zj y.ts) a/\zZ 1 (yR y.own) b
structure Cho.Sm (y:Cho):Prop where
 tl:y.ts.length<=1048576
 ol:y.own.length<=1048576
 ts:∀a∈y.ts,a.Sm
def ov (v:List (List (List Trm))) (ts:List Alt) (p:Bool) (i:Nat):Int:=match ts[i]? with
 |none=>0
 |some a=>if(p&&((a.ts.length:Int)==0))=true then 0 else if(!((v.getD i []).any λb=>X1 a.ts b))=true then 1 else 0
def Mk (c:Cat) (own:List (List UInt8)) (p:Bool) (i:Nat):Int:=match own[i]? with
 |none=>0
 |some s=>if(p&&(s== []))=true then 0 else if(!(c.ls.any λx=>x.name==s))=true then 7 else 0
def qS (c:Cat) (l:List Fac) (y:Cho) (p:Bool):Int:=
 if(!((za c l).2.2==0))=true then(za c l).2.2
 else if(!((y.ts.length:Int)==((za c l).1.length:Int))|| !((y.own.length:Int)==((za c l).2.1.length:Int)))=true then 9
 else if(!(nY (ov (za c l).1 y.ts p) y.ts.length==0))=true then nY (ov (za c l).1 y.ts p) y.ts.length
 else nY (Mk c y.own p) y.own.length
def zAx (h:(jX c e==0)=true):(ofL c e).length<=64/\AltsOk 64 (ofL c e):=by
 unfold jX at h;unfold ofL;split at h
 ·rename_i q;obtain⟨_,b,h3⟩:=Mg (show uy c e=0 by simpa using q);split at h
  ·rename_i l a;have:=(VF (c:=c) e.size).1 e (Nat.le_refl _) h3 l a;rw[a];exact⟨this.1,this.2.mono b⟩
  ·exact absurd h (by decide)
 ·rename_i q;exact absurd h q
theorem Za:∀ {l:List Fac} {t:List (List (List Trm))} {o:List (List UInt8)},(∀a∈t,a.length<=64/\AltsOk 64 a)->∀a∈(jy c l t o).1,a.length<=64/\AltsOk 64 a
 | [],t,o,h=>by rw[jy];exact h
 |f::fs,t,o,h=>by
  rw[jy];split
  ·split
   ·rename_i q;exact Za λa b=>by
     rcases List.mem_append.1 b with g|g
     ·exact h a g
     ·cases List.mem_singleton.1 g;exact zAx q
   ·intro a b;cases b
  ·split
   ·exact Za h
   ·exact Za h
def tN {l:List Fac} :∀a∈(za c l).1,a.length<=64/\AltsOk 64 a:=by
 unfold za;split
 ·intro a b;cases b
 ·exact Za λa b=>by cases b
theorem Zb (C:yt c d) (hs:c.Sm) {l:List Fac} (hx:zZ 12 (nb l) x) (hl:l.length<=1048576) (a6:∀f∈l,f.Ok) {y:Cho} (hy:Ej y z) (a9:y.Sm) (p:Bool) (g:Heap):
  zA prog 39 [d,x,z, .bool p] g λr h'=>h'=g/\r= .int .i64 (qS c l y p):=by
 have V:=jz C hs hx hl a6;have bk:=C;obtain⟨ca,cb,ce,cp,rfl,a4,_,_,_⟩:=C;obtain⟨ya,yb,rfl,P,hb⟩:=hy;obtain⟨y1,y2,y3⟩:=a9;have bs:=qW P;have bx:=yK hb;refine xU kr λba=> ?_;refine xP λQ hQ=> ?_;obtain⟨E,w⟩:∃E,qS c l y p=E:=⟨_,rfl⟩;have m:∀h',Ext g h'->Q (.int .i64 E) h':=λh' I=>hQ _ _ ⟨I,trivial,by rw[w]⟩;clear hQ;unfold qS at w;refine xO mix func39 zGL rfl rfl ?_;simp only[f39,gJ]
 repeat' first|simp only[go_sem, *]|apply bc<;>intro C
 refine(V _).mono ?_;rintro r h ⟨B,td,od,rfl,J,M⟩;subst B;clear V;have X:=Ext.refl h;have J:zZ 1 (ZZ (za c l).1) td:=J.isSl;have M:zZ 1 (yR (za c l).2.1) od:=M.isSl;have a5:=sw J;have bo:=yK M;have a8:∀a∈(za c l).1,a.length<=1048576:=λa P=>Nat.le_trans (tN a P).1 ow;cases q1:((za c l).2.2==0) with
 |false=>
  rw[ip (by rw[q1];rfl)] at w;have B:=m h X;rw[<-w] at B;clear m w
  repeat' first|simp only[go_sem, *]|apply bc<;>intro C
 |true=>
 rw[iq (by rw[q1];decide)] at w;generalize za c l=v at *
 cases R:((y.ts.length:Int)==(v.1.length:Int)) with
 |false=>
  rw[ip (by rw[R];rfl)] at w;have B:=m h X;rw[<-w] at B;clear m w
  repeat' first|simp only[go_sem, *]|apply bc<;>intro C
 |true=>
 cases q3:((y.own.length:Int)==(v.2.1.length:Int)) with
 |false=>
  rw[ip (by rw[R,q3];rfl)] at w;have B:=m h X;rw[<-w] at B;clear m w
  repeat' first|simp only[go_sem, *]|apply bc<;>intro C
 |true=>
 rw[iq (by rw[R,q3];decide)] at w;have T:y.ts.length<=v.1.length:=by have:=of_decide_eq_true R;omega
 obtain⟨F,S⟩:∃F,nY (ov v.1 y.ts p) y.ts.length=F:=⟨_,rfl⟩;rw[S] at w
 repeat' first|simp only[go_sem, *]|apply bc<;>intro C
 clear q1;refine zD (λi fr u=>fr 3= .bool p/\fr 4= .iptr [ca,cb,ce,cp] 0/\fr 6= .iptr [ya,yb] 0/\fr 9=td/\fr 41=ya/\fr 42= .int .i64 (y.ts.length:Int)/\fr 43= .int .i64 (i:Int)/\Ext h u/\∀j,j<i->ov v.1 y.ts p j=0) y.ts.length ow ?_ ?_ ?_
 ·have h0:∀j,j<0->ov v.1 y.ts p j=0:=λj D=>absurd D (Nat.not_lt_zero _);simp only[go_sem,true_and,and_true,Int.ofNat_zero];exact⟨X,h0⟩
 ·rintro i fr u G ec ew ⟨Y,Z,f6,f9,ad,ag,ai,I,D⟩;have a1:=uz P G;have a2:=dF J (show i<v.1.length by omega);have sm:=y3 _ (List.getElem_mem G);have k:ov v.1 y.ts p i=if(p&&((y.ts[i].ts.length:Int)==0))=true then 0 else if(!(v.1[i].any λb=>X1 y.ts[i].ts b))=true then 1 else 0:=by
   unfold ov;rw[List.getElem?_eq_getElem G];simp only;rw[List.getD_eq_getElem?_getD,List.getElem?_eq_getElem ow];rfl
  have q:=λ(e:ov v.1 y.ts p i=0)=>wm (f:=ov v.1 y.ts p) D e;have o:=λ(e:ov v.1 y.ts p i≠0)=>pJ (f:=ov v.1 y.ts p) G D e;rw[S] at o;have N:(u.new u.next (.row [y.ts[i].d])).at' u.next=some (.row [y.ts[i].d]):=zK _ _ _;have K:=I.new I.1 (.row [y.ts[i].d]);have n:=oE (l:=v.1[i].map mkA) (d:=X0 v.1[i]) (zZ.mk .no) (by rw[List.length_map];exact a8 _ (List.getElem_mem _)) (f:=77) (cap:=[.ptr u.next 0]) (p:=λb=>X1 y.ts[i].ts b.ts) (g:=u.new u.next (.row [y.ts[i].d])) (λs hs=>by
   obtain⟨t,ht,rfl⟩:=List.mem_map.1 hs;exact⟨zZ.mk .no,zFT sm.sl (zZ.mk .no) sm.len N⟩)
  have O:(v.1[i].map mkA).any (λb=>X1 y.ts[i].ts b.ts)=v.1[i].any λb=>X1 y.ts[i].ts b:=by rw[List.any_map];rfl
  rw[O] at n;clear O;obtain⟨k1,k2,k3⟩:=zJ sm.sl;have b1:=yr sm.sl;generalize y.ts[i]=a at *
  generalize v.1[i]=b at *
  have a7:zP prog 128 (.ptr u.next 0) a.d (u.new u.next (.row [.nilsl]))=some (u.new u.next (.row [a.d])):=by
   rw[zS (off:=0) (zK _ _ _) yp (by simp) k1 k3,nU];rfl
  have bb:(X0 b).notTuple=true:=rfl;generalize u.new u.next (.row [a.d])=H at *
  clear D S P hb J M y3 sm R q3;cases U:p with
  |true=>
   subst U;cases W:((a.ts.length:Int)==0) with
   |true=>
    have L:=q (by rw[k,W];rfl);clear q o k n m w
    repeat' first|simp only[go_sem, *]|apply bc<;>intro C
    exact L
   |false=>
    rw[iq (by rw[W];decide)] at k;cases A:(b.any λt=>X1 a.ts t) with
    |true=>
     have L:=q (by rw[k,A];rfl);rw[A] at n;clear q o k m w
     repeat' first|simp only[go_sem, *]|apply bc<;>intro C|(refine zA.mono n ?_;rintro r h ⟨B,rfl⟩)
     subst B;exact L
    |false=>
     have h1:F=1:=by rw[o (by rw[k,A];decide),k,A];rfl
     subst h1;rw[ip (by decide)] at w;have B:=m H K;rw[<-w] at B;rw[A] at n;clear q o k m w
     repeat' first|simp only[go_sem, *]|apply bc<;>intro C|(refine zA.mono n ?_;rintro r h ⟨rfl,rfl⟩)
  |false=>
   subst U;rw[iq (by rw[Bool.false_and];decide)] at k;cases A:(b.any λt=>X1 a.ts t) with
   |true=>
    have L:=q (by rw[k,A];rfl);rw[A] at n;clear q o k m w
    repeat' first|simp only[go_sem, *]|apply bc<;>intro C|(refine zA.mono n ?_;rintro r h ⟨B,rfl⟩)
    subst B;exact L
   |false=>
    have h1:F=1:=by rw[o (by rw[k,A];decide),k,A];rfl
    subst h1;rw[ip (by decide)] at w;have B:=m H K;rw[<-w] at B;rw[A] at n;clear q o k m w
    repeat' first|simp only[go_sem, *]|apply bc<;>intro C|(refine zA.mono n ?_;rintro r h ⟨rfl,rfl⟩)
 ·rintro fr u ec ⟨Y,Z,f6,f9,ad,ag,ai,I,D⟩;have a3:F=0:=by rw[<-S];exact wH D
  subst a3;rw[iq (by decide)] at w;clear S D J a5 T R q3
  repeat' first|simp only[go_sem, *]|apply bc<;>intro C
  refine zD (λi fr u=>fr 3= .bool p/\fr 4= .iptr [ca,cb,ce,cp] 0/\fr 63=yb/\fr 64= .int .i64 (y.own.length:Int)/\fr 65= .int .i64 (i:Int)/\Ext h u/\∀j,j<i->Mk c y.own p j=0) y.own.length ow ?_ ?_ ?_
  ·have h0:∀j,j<0->Mk c y.own p j=0:=λj D=>absurd D (Nat.not_lt_zero _);simp only[go_sem,true_and,and_true,Int.ofNat_zero];exact⟨Y,Z,I,h0⟩
  ·clear I;rintro i fr u G ec ew ⟨Y,Z,ak,f64,a0,I,D⟩;have a1:=wN hb G;have k:Mk c y.own p i=if(p&&(y.own[i]== []))=true then 0 else if(!(c.ls.any λx=>x.name==y.own[i]))=true then 7 else 0:=by
    unfold Mk;rw[List.getElem?_eq_getElem G]
   have q:=λ(e:Mk c y.own p i=0)=>wm (f:=Mk c y.own p) D e;have o:=λ(e:Mk c y.own p i≠0)=>pJ (f:=Mk c y.own p) G D e;rw[w] at o;generalize y.own[i]=s at *
   have N:(u.new u.next (.row [.str s])).at' u.next=some (.row [.str s]):=zK _ _ _;have K:=I.new I.1 (.row [.str s]);have n:=dG a4 hs.ls.1 (f:=80) (cap:=[.ptr u.next 0]) (p:=λx=>x.name==s) (g:=u.new u.next (.row [.str s])) (λx _=>zFU x s N);have a7:zP prog 9 (.ptr u.next 0) (.str s) (u.new u.next (.row [.str []]))=some (u.new u.next (.row [.str s])):=by
    rw[zS (off:=0) (zK _ _ _) uY (by simp) rfl rfl,nU];rfl
   generalize u.new u.next (.row [.str s])=H at *
   clear D w P hb M y3;cases U:p with
   |true=>
    subst U;cases W:(s== []) with
    |true=>
     have L:=q (by rw[k,W];rfl);clear q o k n m
     repeat' first|simp only[go_sem, *]|apply bc<;>intro C
     exact L
    |false=>
     rw[iq (by rw[W];decide)] at k;cases A:(c.ls.any λx=>x.name==s) with
     |true=>
      have L:=q (by rw[k,A];rfl);rw[A] at n;clear q o k m
      repeat' first|simp only[go_sem, *]|apply bc<;>intro C|(refine zA.mono n ?_;rintro r h ⟨B,rfl⟩)
      subst B;exact L
     |false=>
      have h1:E=7:=by rw[o (by rw[k,A];decide),k,A];rfl
      subst h1;have B:=m H K;rw[A] at n;clear q o k m
      repeat' first|simp only[go_sem, *]|apply bc<;>intro C|(refine zA.mono n ?_;rintro r h ⟨rfl,rfl⟩)
   |false=>
    subst U;rw[iq (by rw[Bool.false_and];decide)] at k;cases A:(c.ls.any λx=>x.name==s) with
    |true=>
     have L:=q (by rw[k,A];rfl);rw[A] at n;clear q o k m
     repeat' first|simp only[go_sem, *]|apply bc<;>intro C|(refine zA.mono n ?_;rintro r h ⟨B,rfl⟩)
     subst B;exact L
    |false=>
     have h1:E=7:=by rw[o (by rw[k,A];decide),k,A];rfl
     subst h1;have B:=m H K;rw[A] at n;clear q o k m
     repeat' first|simp only[go_sem, *]|apply bc<;>intro C|(refine zA.mono n ?_;rintro r h ⟨rfl,rfl⟩)
  ·clear I;rintro fr u ec ⟨Y,Z,ak,f64,a0,I,D⟩;have h1:E=0:=by rw[<-w];exact wH D
   subst h1;have B:=m u I;clear D m w;exact au
def XP (l:List Int):∀x∈qG l,x.length=1:=λx a=>by
 obtain⟨s,_,rfl⟩:=mem_map.1 a;rfl
def dH (l:List Int):∀x∈qG l,yf x:=λx a=>by
 obtain⟨s,_,rfl⟩:=mem_map.1 a;exact⟨rfl,by simp[zf,below],rfl⟩
def TT (n:Int) (nid:Nat) (h:Heap):zI prog false nid 45 1 [(0, .int .i64 n)] h=some (.sl 1 [[.int .i64 n]] .full,h):=
 zz (P:=prog) (x:= .int .i64 n) yJ uN wc rfl rfl ow ow rfl rfl
def Ro (c:Cat) (t:List (List (List Trm))) (o:List (List UInt8)) (cs:List D):Prop:=∃td od a b e p,cs= [td,od,a,b,e,p]/\zZ 1 (ZZ t) td/\zZ 1 (yR o) od/\yt c (.agg [a,b,e,p])
def TU (c:Cat) (t:List (List (List Trm))) (o:List (List UInt8)):List Nat:=t.map List.length++o.map λ_=>c.ls.length
def kI (l:List Nat):List Int:=l.map λ(n:Nat)=>(n:Int)
def XQ (l:List Int) (n:Int):qG (l++ [n])=qG l++qG [n]:=by simp[qG]
def GG (a b c d e f:D):zM true 6 [a,b,c,d,e,f] 0=some (.agg [a,b,c,d,e,f]):=zB rfl ow
def Ml {t:List (List (List Trm))} {o:List (List UInt8)} (S:Ro c t o cs) (hs:c.Sm) (V:t.length<=1048576) (U:o.length<=1048576) (g:Heap):
  zA prog 198 [.agg cs] g λr h'=>h'=g/\Fin 1 (qG (kI (TU c t o))) r:=by
 obtain⟨td,od,a,b,e,p,rfl,B,I,R⟩:=S;obtain⟨_,_,_,_,H,v,_,_,_⟩:=R;cases H;have l1:=sw B;have l2:=yK I;have l3:=qz v;have K:=λ(x:List (List Trm)) (h:Heap)=>qW (l:=x.map mkA) (d:=X0 x) (zZ.mk .no) h;have W:∀ (x:List (List Trm)) (h:Heap),tU prog 30 (X0 x) h=some (.int .i64 (x.length:Int)):=λx h=>by have:=K x h;rwa [length_map] at this
 clear K;refine xU kr λJ=>xS ?_;refine xP λQ A=> ?_;have G:=Own.start (Ext.refl g) 1;refine xO mix func198 BZ rfl rfl ?_;simp only[f198,gJ];simp only[go_sem, *];refine zD (λi fr h=>∃s,fr 1= .iptr [td,od,a,b,e,p] 0/\fr 7=td/\fr 8= .int .i64 (t.length:Int)/\fr 9= .int .i64 (i:Int)/\fr 3=s/\Own g h 1 (qG (kI ((t.take i).map List.length))) s) t.length ow ?_ ?_ ?_
 ·simp only[go_sem,true_and,and_true,Int.ofNat_zero];exact⟨_,rfl,G⟩
 ·rintro i fr h q C M ⟨s,y,N,O,P,z,f⟩;have X:=dF B q;have Y:=W t[i];have n:kI ((t.take (i+1)).map List.length)=kI ((t.take i).map List.length)++ [(t[i].length:Int)]:=by rw[take_succ_eq_append_getElem q,map_append];simp only[kI,map_append];rfl
  have k:(kI ((t.take i).map List.length)).length=i:=by simp[kI];omega
  rw[n];clear n;generalize t[i]=x at *
  generalize kI ((t.take i).map List.length)=pre at *
  have w:=TT (x.length:Int);have T:(X0 x).notTuple=true:=rfl;clear A B I v;simp only[go_sem, *];refine f.appH (ys:=qG [(x.length:Int)]) yJ YP wc ow (XP _) (by simp[qG]) (by rw[yN,mO,k];unfold lim;simp[qG];omega) (by rw[yN,k];unfold lim;simp[qG];omega) λL h' m=> ?_;rw[<-XQ] at m;clear f;simp only[go_sem, *];exact⟨_,rfl,m⟩
 ·rintro fr h C ⟨s,y,N,O,P,z,f⟩;rw[take_length] at f;have u:∀j,kI (t.map List.length++(o.take j).map λ_=>c.ls.length)=kI (t.map List.length)++kI ((o.take j).map λ_=>c.ls.length):=λj=>by simp[kI]
  simp only[go_sem, *];refine zD (λi fr h=>∃s,fr 1= .iptr [td,od,a,b,e,p] 0/\fr 20=od/\fr 21= .int .i64 (o.length:Int)/\fr 22= .int .i64 (i:Int)/\fr 3=s/\Own g h 1 (qG (kI (t.map List.length++(o.take i).map λ_=>c.ls.length))) s) o.length ow ?_ ?_ ?_
  ·have h0:Own g h 1 (qG (kI (t.map List.length++(o.take 0).map λ_=>c.ls.length))) s:=by simpa using f
   simp only[go_sem,true_and,and_true,Int.ofNat_zero];exact⟨s,y,z,h0⟩
  ·clear f;rintro i fr h q C M ⟨s,y,D,E,F,z,f⟩;have n:kI (t.map List.length++(o.take (i+1)).map λ_=>c.ls.length)=kI (t.map List.length++(o.take i).map λ_=>c.ls.length)++ [(c.ls.length:Int)]:=by rw[take_succ_eq_append_getElem q,map_append,<-append_assoc];simp only[kI,map_append];rfl
   have k:(kI (t.map List.length++(o.take i).map λ_=>c.ls.length)).length=t.length+i:=by simp[kI];omega
   rw[n];clear n u;generalize kI (t.map List.length++(o.take i).map λ_=>c.ls.length)=pre at *
   have w:=TT (c.ls.length:Int);clear A B I v;simp only[go_sem, *];refine f.appH (ys:=qG [(c.ls.length:Int)]) yJ YP wc ow (XP _) (by simp[qG]) (by rw[yN,mO,k];unfold lim;simp[qG];omega) (by rw[yN,k];unfold lim;simp[qG];omega) λL h' m=> ?_;rw[<-XQ] at m;clear f;simp only[go_sem, *];exact⟨_,rfl,m⟩
  ·clear f;rintro fr h C ⟨s,y,D,E,F,z,f⟩;rw[take_length] at f;have hf:=f.2.1.fin (dH _);have Z:=A s h ⟨f.1,zx (zero_le _) _ hf.1,hf.2⟩;clear A f hf u;exact au
def L6:List Nat->Nat->Nat
 | [],n=>n
 |r::rs,n=>if n*r>4096 then n*r else L6 rs (n*r)
def Jr (l:List Nat):Nat:=if l.any (· ==0) then 0 else L6 l 1
def Mm {t:List (List (List Trm))} {o:List (List UInt8)} (M:Ro c t o cs) (O:c.Sm) (ad:t.length<=524288) (Y:o.length<=524288) (hr:∀x∈t,x.length<=1048576) (g:Heap):
  zA prog 117 [.agg cs] g λr h'=>h'=g/\r= .int .i64 ((Jr (TU c t o):Nat):Int):=by
 have H:=Ml M O ow ow;obtain⟨td,od,a,b,e,p,rfl,ht,ho,u⟩:=M;have h6:=GG;have I:∀r∈TU c t o,r<=1048576:=λr G=>by
  rcases mem_append.1 G with q|q
  ·obtain⟨x,P,rfl⟩:=mem_map.1 q;exact hr x P
  ·obtain⟨x,P,rfl⟩:=mem_map.1 q;exact O.ls.1
 have W:(TU c t o).length<=1048576:=by simp[TU];omega
 refine xP λQ V=> ?_;have f:=V _ _ ⟨rfl,rfl⟩;unfold Jr at f;generalize TU c t o=L at *
 refine xO mix func117 BV rfl rfl ?_;simp only[f117,gJ]
 repeat' first|simp only[go_sem, *]|apply bc<;>intro u
 refine(H _).mono ?_;rintro r h ⟨F,hf⟩;subst F;have k:=hf.isSl;have E:(kI L).length=L.length:=by simp[kI]
 have d:=fX k ow 0;have l:=wd k;rw[E] at l;have B:((kI L).any λx=>x==0)=L.any (· ==0):=by
  rw[kI,any_map];congr 1
  funext x
  exact Eh x 0
 rw[B] at d;cases q:L.any (· ==0) with
 |true=>
  rw[ip q] at f;have Z:Q (.int .i64 0) h:=f;rw[q] at d
  repeat' first|simp only[go_sem, *]|apply bc<;>intro u|(refine zA.mono (d _) ?_;rintro r h ⟨rfl,rfl⟩)
 |false=>
 rw[iq (by rw[q];exact Bool.false_ne_true)] at f;rw[q] at d;obtain⟨R,J⟩:∃R,L6 L 1=R:=⟨_,rfl⟩;rw[J] at f
 repeat' first|simp only[go_sem, *]|apply bc<;>intro u|(refine zA.mono (d _) ?_;rintro r h ⟨F,rfl⟩)
 subst F
 rename Heap=>g
 refine zD (λi fr h=>∃n:Nat,fr 11=r/\fr 12= .int .i64 (L.length:Int)/\fr 13= .int .i64 (i:Int)/\fr 4= .int .i64 (n:Int)/\h=g/\n<=4096/\L6 (L.drop i) n=R) L.length ow ?_ ?_ ?_
 ·simp only[go_sem,true_and,and_true,Int.ofNat_zero];exact⟨1,rfl,by omega,J⟩
 ·rintro i fr h s T ew ⟨n,v,w,z,U,rfl,N,j⟩;have S:=sY k (show i<(kI L).length by omega);have D:(kI L)[i]'ow=((L[i]:Nat):Int):=by simp[kI]
  rw[D] at S;have A:=I _ (getElem_mem s);rw[drop_eq_getElem_cons s,L6] at j;generalize L[i]=y at *
  have hm:n*y<=4096*1048576:=Nat.mul_le_mul N A;have hw:IntKind.i64.wrap ((n:Int)*(y:Int))=((n*y:Nat):Int):=by rw[zd (by rw[<-Int.natCast_mul];omega) (by rw[<-Int.natCast_mul];omega),Int.natCast_mul]
  generalize X:n*y=m at *
  by_cases K:m>4096
  ·have e1:decide ((m:Int)>4096)=true:=decide_eq_true ow;rw[ip K] at j;subst j;exact au
  ·have e1:decide ((m:Int)>4096)=false:=decide_eq_false ow;rw[iq K] at j;have C:m<=4096:=ow
   repeat' first|simp only[go_sem, *]|apply bc<;>intro u
   exact⟨m,rfl,C,j⟩
 ·rintro fr h T ⟨n,v,w,z,U,rfl,N,j⟩;rw[drop_length,L6] at j;subst j;exact au
def zFV:zY prog RY f160=true:=by kernel_rfl
def Mn (h0:ts≠[]) (o:ts.length<=1048576) (g:Heap):
  zA prog 160 [(mkA ts).d] g λr h'=>h'=g/\r=(mkA ts).d:=by
 refine xU kr λk=>xS ?_;have c:Ext g g:=Ext.refl g;have j:(mkA ts).d= .sl 2 (yT ts) .no:=rfl;rw[j];have p:pb prog .eql 128 true (.sl 2 (yT ts) .no) .nilsl=some (.bool false):=by rw[wv (zZ.mk .no) underlying128];rfl
 have t:=λnid h=>qe (P:=prog) (nid:=nid) (h:=h) yX qt yv rfl rfl (by omega:0<2);have i:zu prog false g.next 128 (.sl 2 [] .full) (.sl 2 (yT ts) .no) g=some (.sl 2 (yT ts) (.own g.next),g.new g.next .tok):=by
  rw[kq yX jm yv ow (wt ts) (by rw[rV,yQ];unfold lim;omega) (by rw[yQ];unfold lim;omega),iq (by rw[yQ];exact λq=>h0 (List.length_eq_zero_iff.1 q))]
 have e:=c.new (Nat.le_refl _) .tok;have a:=yB (sz:=2) (xs:=yT ts) (λx l=>by
  obtain⟨y,_,rfl⟩:=List.mem_map.1 l;exact⟨rfl,by simp[Trm.cells,zf,below],rfl⟩) (.own g.next)
 have b:below g.next (zi (.sl 2 (yT ts) (.own g.next)))/\zi (.sl 2 (yT ts) (.own g.next))= .sl 2 (yT ts) .no:=⟨by rw[a.1];exact zx (Nat.zero_le _) _ a.2,a.1⟩;obtain⟨m,n⟩:=b;refine xP λQ f=> ?_;have s:=f _ _ ⟨e,m,n⟩;refine xO mix func160 zFV rfl rfl ?_;simp only[f160,gJ];simp only[go_sem,zCH, *]
def nd (sz:Nat):List (List D)->D
 | []=> .nilsl
 |x::xs=> .sl sz (x::xs) .no
theorem lG {c:Cat} :∀ {l:List Fac} {t:List (List (List Trm))} {o:List (List UInt8)},(jy c l t o).1.length<=t.length+l.length/\(jy c l t o).2.1.length<=o.length+l.length
 | [],t,o=>by rw[jy];simp
 |f::fs,t,o=>by
  rw[jy];split
  ·split
   ·have:=lG (c:=c) (l:=fs) (t:=t++ [ofL c f.e]) (o:=o);simp only[List.length_append,List.length_cons,List.length_nil] at this⊢;omega
   ·simp
  ·split
   ·split
    ·have:=lG (c:=c) (l:=fs) (t:=t) (o:=o);simp only[List.length_cons];omega
    ·have:=lG (c:=c) (l:=fs) (t:=t) (o:=o++ [f.out]);simp only[List.length_append,List.length_cons,List.length_nil] at this⊢;omega
   ·have:=lG (c:=c) (l:=fs) (t:=t) (o:=o);simp only[List.length_cons];omega
def oc {l:List Fac} :(za c l).1.length<=l.length/\(za c l).2.1.length<=l.length:=by
 unfold za;split
 ·simp
 ·have:=lG (c:=c) (l:=l) (t:=[]) (o:=[]);simpa using this
def Ek (c:Cat) (l:List Fac):Nat:=Jr (TU c (za c l).1 (za c l).2.1)
def yn (c:Cat) (l:List Fac):Int:=if(!((za c l).2.2==0))=true then(za c l).2.2 else if decide ((Ek c l:Int)>4096)=true then 10 else 0
abbrev XS:List D:=[.nilsl, .nilsl, .nilsl, .nilsl, .nilsl, .nilsl]
def dJ {a b e p:D} (h:yt c (.agg [a,b,e,p])):(a.flat=true/\b.flat=true)/\e.flat=true/\p.flat=true:=by
 obtain⟨_,_,_,_,d,f,g,i,j⟩:=h;cases d;exact⟨⟨(zJ f).2.2,(zJ g).2.2⟩,(zJ i).2.2,(zJ j).2.2⟩
def Mo {a b e p:D} (h:yt c (.agg [a,b,e,p])):(a.cells= [a]/\b.cells= [b])/\e.cells= [e]/\p.cells= [p]:=by
 obtain⟨_,_,_,_,d,f,g,i,j⟩:=h;cases d;exact⟨⟨(zJ f).1,(zJ g).1⟩,(zJ i).1,(zJ j).1⟩
theorem Mp (j:yt c d) (I:c.Sm) {l:List Fac} (W:zZ 12 (nb l) x) (hl:l.length<=65536) (A:∀f∈l,f.Ok) (g:Heap):
  zA prog 116 [d,x] g λr h'=>Ext g h'/\∃cs,r= .tuple [.agg cs, .int .i64 (yn c l)]/\(cs.length=6/\cs.all D.flat=true)/\(yn c l=0->Ro c (za c l).1 (za c l).2.1 cs):=by
 have E:=jz j I W ow A;obtain⟨X,Y⟩:=oc (c:=c) (l:=l);have C:=λcs (w:Ro c (za c l).1 (za c l).2.1 cs)=>Mm w I ow ow λa T=>Nat.le_trans (tN a T).1 ow;have k:=j;obtain⟨ca,cb,ce,cp,rfl,_,_,_,_⟩:=j;obtain⟨⟨N,O⟩,P,R⟩:=dJ k;obtain⟨⟨Z,D2⟩,D3,D4⟩:=Mo k;have h6:=GG;refine xP λQ z=> ?_;have U:zt prog 189 []=some (.agg XS):=by simp[zt,gu,YS,qB,D.notTuple,D.cells]
 obtain⟨G,hG,L,y,n0⟩:∃G,g.new g.next (.row XS)=G/\G.at' g.next=some (.row XS)/\Ext g G/\g.next<G.next:=⟨_,rfl,zK _ _ _,(Ext.refl g).new (Nat.le_refl _) _,by rw[zF];omega⟩;have u:∀cs:List D,cs.length=6->cs.all D.flat=true->zP prog 189 (.ptr g.next 0) (.agg cs) G=some (G.set g.next (.row cs)):=λcs h1 S=>yM L (by rw[lu,h1]) (by rw[h1];rfl) ow S;refine xO mix func116 A7 rfl rfl ?_;simp only[f116,gJ]
 repeat' first|simp only[go_sem, *]|apply bc<;>intro j
 refine(E _).mono ?_;rintro r h ⟨hq,td,od,rfl,o,n⟩;cases v:((za c l).2.2==0) with
 |false=>
  have i:yn c l=(za c l).2.2:=by unfold yn;rw[v];rfl
  have t:=u XS rfl rfl;have q:=zC G g.next (.row XS);have s:=z (.tuple [.agg XS, .int .i64 (za c l).2.2]) (G.set g.next (.row XS)) ⟨y.set (Nat.le_refl _) _,XS,by rw[i],⟨rfl,rfl⟩,λe=>by rw[i] at e;rw[e] at v;exact absurd v (by decide)⟩
  repeat' first|simp only[go_sem, *]|apply bc<;>intro j
 |true=>
 have V:zt prog 189 [(0,td),(1,od),(2, .agg [ca,cb,ce,cp])]=some (.agg [td,od,ca,cb,ce,cp]):=by
  rcases o.isSl with⟨rfl,_⟩ | ⟨_,rfl⟩ <;>rcases n.isSl with⟨rfl,_⟩ | ⟨_,rfl⟩ <;>simp[zt,gu,YS,qB,yU,D.cells,D.notTuple]
 have w:Ro c (za c l).1 (za c l).2.1 [td,od,ca,cb,ce,cp]:=⟨_,_,_,_,_,_,rfl,o.isSl,n.isSl,k⟩;have b:=C _ w;have m:([td,od,ca,cb,ce,cp]:List D).all D.flat=true:=by simp[(zJ o.isSl).2.2,(zJ n.isSl).2.2,N,O,P,R]
 have J:zP prog 189 (.ptr G.next 0) (.agg [td,od,ca,cb,ce,cp]) (G.new G.next (.row XS))=some (G.new G.next (.row [td,od,ca,cb,ce,cp])):=zg lu ow rfl rfl m;obtain⟨H,hH,r1,F,n1,M⟩:∃H,G.new G.next (.row [td,od,ca,cb,ce,cp])=H/\H.at' G.next=some (.row [td,od,ca,cb,ce,cp])/\Ext G H/\g.next<H.next/\H.at' g.next=some (.row XS):=⟨_,rfl,zK _ _ _,(Ext.refl G).new (Nat.le_refl _) _,by rw[zF];omega,by rw[zG ow];exact L⟩;have p:Jr (TU c (za c l).1 (za c l).2.1)=Ek c l:=rfl;rw[p] at b;cases K:decide ((Ek c l:Int)>4096) with
 |true=>
  have i:yn c l=10:=by unfold yn;rw[v,K];rfl
  have t:zP prog 189 (.ptr g.next 0) (.agg XS) H=some (H.set g.next (.row XS)):=yM M lu rfl (by decide) rfl;have q:=zC H g.next (.row XS);have s:=z (.tuple [.agg XS, .int .i64 10]) (H.set g.next (.row XS)) ⟨(y.trans F).set (Nat.le_refl _) _,XS,by rw[i],⟨rfl,rfl⟩,λe=>by rw[i] at e;exact absurd e (by decide)⟩
  repeat' first|simp only[go_sem, *]|apply bc<;>intro j|(refine zA.mono (b _) ?_;rintro r h ⟨B,rfl⟩)
 |false=>
  have i:yn c l=0:=by unfold yn;rw[v,K];rfl
  have t:zP prog 189 (.ptr g.next 0) (.agg [td,od,ca,cb,ce,cp]) H=some (H.set g.next (.row [td,od,ca,cb,ce,cp])):=yM M lu rfl (by simp) m;have q:=zC H g.next (.row [td,od,ca,cb,ce,cp]);have s:=z (.tuple [.agg [td,od,ca,cb,ce,cp], .int .i64 0]) (H.set g.next (.row [td,od,ca,cb,ce,cp])) ⟨(y.trans F).set (Nat.le_refl _) _,_,by rw[i],⟨rfl,m⟩,λ_=>w⟩
  repeat' first|simp only[go_sem, *]|apply bc<;>intro j|(refine zA.mono (b _) ?_;rintro r h ⟨B,rfl⟩)
def XT (c:Cat) (l:List Fac):D:=if(yn c l==0)=true then .tuple [.int .i64 (Ek c l:Int), .int .i64 0] else .tuple [.int .i64 0, .int .i64 (yn c l)]
def El (i:yt c d) (t:c.Sm) {l:List Fac} (F:zZ 12 (nb l) x) (B:l.length<=65536) (o:∀f∈l,f.Ok) (g:Heap):
  zA prog 63 [d,x] g λr h'=>h'=g/\r=XT c l:=by
 have m:=Mp i t F B o;obtain⟨G,I⟩:=oc (c:=c) (l:=l);have j:=λcs (n:Ro c (za c l).1 (za c l).2.1 cs)=>Mm n t ow ow λa z=>Nat.le_trans (tN a z).1 ow;have e:Jr (TU c (za c l).1 (za c l).2.1)=Ek c l:=rfl;rw[e] at j;obtain⟨ca,cb,ce,cp,rfl,_,_,_,_⟩:=i;refine xU kr λq=> ?_;refine xP λQ y=> ?_;have b:∀h',Ext g h'->Q (XT c l) h':=λh' A=>y _ _ ⟨A,by unfold XT;split<;>simp[below,zf],rfl⟩;unfold XT at b;refine xO mix func63 zGN rfl rfl ?_;simp only[f63,gJ]
 repeat' first|simp only[go_sem, *]|apply bc<;>intro i
 refine(m _).mono ?_;rintro r h ⟨w,cs,rfl,⟨k,cf⟩,n⟩;have u:zP prog 189 (.ptr h.next 0) (.agg cs) (h.new h.next (.row XS))=some (h.new h.next (.row cs)):=zg lu ow rfl k cf;obtain⟨H,J,r1,v⟩:∃H,h.new h.next (.row cs)=H/\H.at' h.next=some (.row cs)/\Ext h H:=⟨_,rfl,zK _ _ _,(Ext.refl h).new (Nat.le_refl _) _⟩;have s:=b H (w.trans v);have C:sH prog 189 (.ptr h.next 0) H=some (.agg cs):=fF r1 FN (by rw[lu,k]) ow;have E:zM true 6 cs 0=some (.agg cs):=zB k ow;cases p:(yn c l==0) with
 |false=>
  rw[iq (by rw[p];exact Bool.false_ne_true)] at s
  repeat' first|simp only[go_sem, *]|apply bc<;>intro i
 |true=>
  rw[ip p] at s;have D:=j cs (n (by simpa using p))
  repeat' first|simp only[go_sem, *]|apply bc<;>intro i|(refine zA.mono (D _) ?_;rintro r h ⟨rfl,rfl⟩)
def GH {l:List Fac} (h:yn c l=0):Ek c l<=4096:=by
 unfold yn at h;split at h
 ·rename_i q;rw[h] at q;exact absurd q (by decide)
 ·split at h
  ·exact absurd h (by decide)
  ·rename_i q;simp at q;omega
def yw (p:Fac->Bool):List Fac->Nat->List Nat
 | [],_=>[]
 |f::fs,k=>if p f then k::yw p fs (k+1) else yw p fs (k+1)
theorem tD (p:Fac->Bool):∀ (l m:List Fac) (k:Nat),yw p (l++m) k=yw p l k++yw p m (k+l.length)
 | [],m,k=>by simp[yw]
 |f::l,m,k=>by
  simp only[List.cons_append,yw,tD p l m (k+1),List.length_cons];rw[show k+1+l.length=k+(l.length+1) by omega];split<;>simp
theorem uG (p:Fac->Bool):∀ (l:List Fac) (k:Nat),∀i∈yw p l k,k<=i/\i<k+l.length
 | [],k,i,h=>by simp[yw] at h
 |f::l,k,i,h=>by
  simp only[yw] at h;have a:=uG p l (k+1);split at h
  ·rcases List.mem_cons.1 h with rfl|h
   ·simp
   ·have:=a i h;simp;omega
  ·have:=a i h;simp;omega
def QA (p:Fac->Bool) (l:List Fac) (i:Nat):Nat:=(yw p (l.take i) 0).length
def Mq {p:Fac->Bool} {l:List Fac} (h:i<l.length) (a:p l[i]=false):QA p l (i+1)=QA p l i:=by
 unfold QA;rw[List.take_succ_eq_append_getElem h,tD];simp[yw,a]
def Js {p:Fac->Bool} {l:List Fac} (h:i<l.length) (a:p l[i]=true):QA p l (i+1)=QA p l i+1/\(yw p l 0)[QA p l i]? =some i:=by
 constructor
 ·unfold QA;rw[List.take_succ_eq_append_getElem h,tD];simp[yw,a]
 ·unfold QA;have e:l=l.take i++l[i]::l.drop (i+1):=by rw[List.getElem_cons_drop,List.take_append_drop]
  have e2:yw p l 0=yw p (l.take i) 0++yw p (l[i]::l.drop (i+1)) (0+(l.take i).length):=by
   rw[<-tD,<-e]
  rw[e2,List.getElem?_append_right (Nat.le_refl _),Nat.sub_self];have e3:(l.take i).length=i:=by rw[List.length_take];omega
  simp[yw,a,e3]
def Jt {p:Fac->Bool} {l:List Fac} :QA p l l.length=(yw p l 0).length:=by
 unfold QA;rw[List.take_length]
def oK (sc:List D) (kind:Int) (hf:D):D:= .fn (.func 343) [] [.iptr [.iptr sc 0] 0, .iptr [.int .i64 kind] 0, .iptr [hf] 0]
def kJ (sc:List D) (kind:Int) {hf:D} (b:∃f a c,hf= .fn f a c) (h:Heap):zA prog 278 [.iptr sc 0, .int .i64 kind,hf] h λr h'=>h'=h/\r=oK sc kind hf:=by
 obtain⟨fr,a,c,rfl⟩:∃f a c,hf= .fn f a c:=b;refine xO mix func278 zAH rfl rfl ?_;simp only[f278,gJ];simp only[go_sem,oK]
theorem qT (p:Fac->Bool):∀ (l:List Fac) (k:Nat),(yw p l k).length<=l.length
 | [],_=>Nat.le_refl _
 |f::l,k=>by
  simp only[yw];have:=qT p l (k+1);split<;>simp only[List.length_cons]<;>omega
def isF (kind:Int) (q:Fac->Bool) (f:Fac):Bool:=f.kind==kind&&q f
def fIx (kind:Int) (q:Fac->Bool) (fs:List Fac):List Nat:=yw (isF kind q) fs 0
abbrev elI (l:List Nat) (k:Nat):List D:=[.int .i64 ((l.getD k 0:Nat):Int)]
def oe {hf:D} {q:Fac->Bool} (V:sc[4]? =some x) (hx:zZ 12 (nb fs) x) (hl:fs.length<=1048576) (U:∀f∈fs,f.Ok) {Y:Nat->(Nat->Prop)->Heap->Prop}
  (y:Yld prog id (fIx N q fs).length (elI (fIx N q fs)) Y λ_ _=>False)
  {S R:Nat->Prop} (hR:∀i,R i->i<h.next/\(¬S i\/∀k S h',Y k S h'->h'.at' i=h.at' i)) (hq:∀f∈fs,∀s:Heap,(∀i,R i->s.at' i=h.at' i)->kX prog hf [.agg f.cells] s λr h3=>h3=s/\r= .bool (q f)) (hY:Y 0 S h):
  zA prog 343 [.yld id, .iptr [.iptr sc 0] 0, .iptr [.int .i64 N] 0, .iptr [hf] 0] h λ_ h'=>∃S',(∀j,S' j->S j\/h.next<=j)/\But S h h'/\Y (fIx N q fs).length S' h':=by
 refine xO mix func343 B4 rfl rfl ?_;simp only[f343,gJ];have P:=uR hx;simp only[go_sem,ze,V,P];refine yF (λi fr h'=>fr 0= .yld id/\fr 2= .iptr [.int .i64 N] 0/\fr 3= .iptr [hf] 0/\fr 10=x/\fr 11= .int .i64 fs.length/\fr 12= .int .i64 (i:Int)/\∃S',(∀j,S' j->S j\/h.next<=j)/\But S h h'/\Y (QA (isF N q) fs i) S' h') fs.length ?_ ?_
 ·simp only[go_sem,true_and,and_true,Int.ofNat_zero];exact⟨S,λj o=> .inl o,But.refl S h,hY⟩
 rintro i fr h' Z ⟨u,v,w,c,d,e,S',z,m,l⟩;simp only[go_sem,u,v,w,c,d,e];by_cases b:i<fs.length
 ·rw[decide_eq_true (show(i:Int)<fs.length by exact_mod_cast b)];have hm:fs[i]∈fs:=List.getElem_mem b;have X:=qZ hx b;have hw:zM true 12 fs[i].cells 0=some (.agg fs[i].cells):=zB rfl ow;have E:=Y5 (U _ hm);have n:Ext h' (h'.new h'.next (.row fs[i].cells)):=(Ext.refl h').new (Nat.le_refl _) _;have a:But S h (h'.new h'.next (.row fs[i].cells)):=m.trans (n.but S) λi Z=> .inl Z;have B:fs[i].cells[0]? =some (.int .i64 fs[i].kind):=rfl;have H:IntKind.i64.wrap ((i:Int)+1)=((i+1:Nat):Int):=zw (by unfold lim;omega);cases G:(fs[i].kind==N) with
  |false=>
   simp only[go_sem,u,v,w,c,d,e,X,hw,E,B,G,H,true_and];refine⟨b,S',z,a,?_⟩;rw[Mq b (by simp[isF,G])];exact y.ext l n
  |true=>
   simp only[go_sem,u,v,w,c,d,e,X,hw,E,B,G];refine kX.mono (Q:=λr h3=>h3=h'.new h'.next (.row fs[i].cells)/\r= .bool (q fs[i])) ?_ (hq _ hm _ λj o=> ?_)
   rotate_left
   ·obtain⟨h1,s|s⟩:=hR j o
    ·exact a.2 j h1 s
    ·have:=m.1;rw[zG ow,s _ _ _ l]
   rintro r h3 ⟨rfl,rfl⟩;cases C:q fs[i] with
   |false=>
    simp only[go_sem,u,v,w,c,d,e,H,true_and];refine⟨b,S',z,a,?_⟩;rw[Mq b (by simp[isF,C])];exact y.ext l n
   |true=>
    obtain⟨n1,n2⟩:=Js (p:=isF N q) b (by simp[isF,G,C]);have T:=(List.getElem?_eq_some_iff.1 n2).1;have M:(fIx N q fs).getD (QA (isF N q) fs i) 0=i:=by rw[List.getD_eq_getElem?_getD,fIx,n2];rfl
    have A:=y.go _ S' _ T (y.ext l n);simp only[elI,M] at A;simp only[go_sem,u,v,w,c,d,e];refine A.mono ?_;rintro r h3 ⟨W,I,L,hr⟩;have t:But S h h3:=a.trans L z;have F:∀j,W j->S j\/h.next<=j:=λj o=>by
     rcases I j o with o|o
     ·exact z j o
     ·have h1:=a.1;exact .inr ow
    rcases hr with⟨rfl,J⟩ | ⟨rfl,K⟩
    ·simp only[go_sem,u,v,w,c,d,e,vun,H,true_and];exact⟨b,W,F,t,by rw[n1];exact J⟩
    ·exact K.elim
 ·have O:i=fs.length:=ow;subst O;rw[decide_eq_false ow];simp only[go_sem];rw[Jt] at l;exact⟨S',z,m,l⟩
end Go.V
