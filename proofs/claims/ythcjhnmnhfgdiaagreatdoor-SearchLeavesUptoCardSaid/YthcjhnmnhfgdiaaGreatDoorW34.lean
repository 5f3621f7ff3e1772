/- Rules of the machine of abstract values, part 10. No condition. -/
import Derived.Test.YthcjhnmnhfgdiaaGreatDoorW33
set_option linter.all false
set_option maxHeartbeats 8000000
namespace Go.V
open List hiding max min map and or get le lt range extract
open Nat(zero_le le_refl le_trans lt_irrefl le_of_lt lt_of_lt_of_le lt_of_le_of_lt lt_succ_iff_lt_or_eq le_of_lt_succ)
open Go.Shelf Go.Proofs Go.Sort
open Go.RowKit (Below)
variable {P:Program}{f:FuncId}{args cap:List D}{d:D}{M:Imm}{ρ:Ren}{w:World}{n k i:Nat}{va:Array Value}{α β:Type}{vs:List Value}{g:Heap}
def zA.stays {x:Value} (A:∀H,zA P f args H λr _=>r=d) (t:∀M ρ v,rel M ρ d v->v=x)
  (h:∀b o v,M b o=some v->w.cell? ⟨b,o,none⟩ =some v) (u:QT P w) (k:rT ρ n) (hr:yD M ρ args va.toList):
  Calls P f va w λe a=>e= .returned x/\∃q C,a=Go.Sort.grow (w.drewN q) C:=by
 let B:Base:=⟨w,M,λb=>b<w.heap.size,λ_ g=>g⟩
 have z:Sim B [] M ρ ⟨n,λ_=>none⟩ w:=
  { below:=⟨rfl,rfl,rfl,le_refl _,λ_ _=>rfl,le_refl _⟩,imm:=h,live:=λi J e=>(by cases e),apart:=λi j K L G I e=>(by cases e),gdef:=λb g=>(by cases g),old:=λb o v _ e=>e }
 refine((A ⟨n,λ_=>none⟩).2 B [] M ρ w va (Zy.start u) z k hr).mono λe a y=> ?_;obtain⟨v,M',N,D,h',rfl,_,_,k3,_,k5,rfl⟩:=y;refine⟨by rw[t _ _ _ k5],a.drawn-w.drawn,a.heap.extract w.heap.size a.heap.size,?_⟩;have c:=k3.below;have e1:a.os=w.os:=c.os;have e2:a.tape=w.tape:=c.tape;have e3:a.output=w.output:=c.output;have p:w.drawn<=a.drawn:=c.drawn;have E:w.heap.size<=a.heap.size:=c.size;have s:∀b,b<w.heap.size->a.heap[b]? =w.heap[b]? :=λb g=>c.block b g;have l:a.heap=w.heap++a.heap.extract w.heap.size a.heap.size:=by
  apply Array.ext_getElem?;intro i;rw[Array.getElem?_append];split
  ·rename_i m;rw[s i m]
  ·rename_i m;rw[Array.getElem?_extract];split
   ·congr 1;omega
   ·rename_i F;rw[Array.getElem?_eq_none ow]
 cases a;cases w;simp only at e1 e2 e3 p l;subst e1 e2 e3;simp only[Go.Sort.grow,World.drewN,World.mk.injEq,true_and,and_true];exact⟨l,by omega⟩
def XE [Inhabited α] (enc:α->Value) (off:Nat) (d:Array α) (c:Array Value):putCells enc off d c=putCells id off (d.map enc) c:=by
 unfold putCells;congr 1
 funext k x
 simp only[Array.size_map,id];split
 ·rename_i h;rw[getElem!_pos d _ ow,getElem!_pos (d.map enc) _ (by simp;omega),Array.getElem_map]
 ·rfl
def kG [Inhabited α] (enc:α->Value) (w:World) (a off:Nat) (d:Array α):putRow enc w a off d=putRow id w a off (d.map enc):=by
 unfold putRow;congr 1
 funext c
 exact XE enc off d c
theorem GD:∀ {xs:List (List Value)} (_:∀x∈xs,x.length=k) {i j:Nat} (_:j<k) {x:List Value} (_:xs[i]? =some x),xs.flatten[i*k+j]? =x[j]?
 | [],_,i,j,_,x,h=>by simp at h
 |y::xs,a,0,j,b,x,h=>by
  simp only[getElem?_cons_zero,Option.some.injEq] at h;subst h;rw[Nat.zero_mul,Nat.zero_add,flatten_cons,getElem?_append_left (by rw[a y (by simp)];exact b)]
 |y::xs,a,i+1,j,b,x,h=>by
  simp only[getElem?_cons_succ] at h;have d:=a y (by simp);rw[flatten_cons,Nat.succ_mul,getElem?_append_right ow,show i*k+k+j-y.length=i*k+j by omega];exact GD (λz c=>a z (by simp[c])) b h
theorem bW:∀ {xs:List (List Value)} (_:∀x∈xs,x.length=k),xs.flatten.length=xs.length*k
 | [],_=>by simp
 |y::xs,a=>by rw[flatten_cons,length_append,a y (by simp),bW λz b=>a z (by simp[b]),length_cons,Nat.succ_mul];omega
def Rh [Inhabited α] {enc:α->List Value} (b:∀x,(enc x).length=k) (h1:0<k) (d:Array α):flatK enc k d=(d.toList.map enc).flatten.toArray:=by
 apply Array.ext_getElem?;intro i;have c:∀x∈d.toList.map enc,x.length=k:=λx l=>by
  obtain⟨y,_,rfl⟩:=mem_map.1 l;exact b y
 have f:(d.toList.map enc).flatten.length=d.size*k:=by rw[bW c,length_map,Array.length_toList]
 by_cases a:i<d.size*k
 ·have j:i/k<d.size:=by rw[Nat.div_lt_iff_lt_mul h1];exact a
  have h:i%k<k:=Nat.mod_lt _ h1;have e:(d.toList.map enc)[i/k]? =some (enc d[i/k]!):=by
   rw[getElem?_map,getElem!_pos d _ j,Array.getElem?_toList,Array.getElem?_eq_getElem j];rfl
  have:=GD c h e;rw[Nat.mul_comm,Nat.div_add_mod] at this;have g:=get_flatK enc k d i a;rw[getElem!_pos (flatK enc k d) i (by simpa using a)] at g;rw[Array.getElem?_eq_getElem (by simpa using a),g,getElem?_toArray,this,getElem!_pos (enc d[i/k]!) (i%k) (by rw[b];exact h),getElem?_eq_getElem]
 ·rw[Array.getElem?_eq_none (by simpa using a),getElem?_toArray,getElem?_eq_none ow]
def PermIn.list [Inhabited α] {d a:Array α} (h:PermIn 0 d.size d a):a.toList.Perm d.toList:=by
 obtain⟨h1,_,h3⟩:=h;have e1:a.extract 0 d.size=a:=by rw[<-h1];simp
 have e2:d.extract 0 d.size=d:=by simp
 rwa [e1,e2] at h3
def jW [Inhabited α] (enc:α->List Value) (k:Nat) (w:World) (a off m:Nat) (c:Array α) (d:Array Go.Obj):∀b,b≠a->b<w.heap.size->(sortWorldK enc k w a off m c d).heap[b]? =w.heap[b]? :=λb f g=>by
 show((putRow id (Go.Sort.ahead w m) a off (flatK enc k c)).heap++d)[b]? =_;have h:(putRow id (Go.Sort.ahead w m) a off (flatK enc k c)).heap.size=w.heap.size:=by simp[putRow,mapBlock,Go.Sort.ahead]
 rw[Array.getElem?_append_left ow];show((Go.Sort.ahead w m).heap.modify a _)[b]? =_;rw[Array.getElem?_modify,iq (λe=>f e.symm)];rfl
section
variable {P:Program} {f cmp:FuncId} {β:Type} {k:Nat} {cells:β->List D} {xs:List β} {id:Nat} {pre post:List D} {h:Heap} {cf:β->β->Int}
abbrev R9 (cells:β->List D) (xs:List β) (M:Imm) (ρ:Ren):= {p:β×List Value // p.1∈xs/\yD M ρ (cells p.1) p.2/\(cells p.1).all D.flat=true}
abbrev CP:= {p:D×Value // p.1.flat=true}
instance:Inhabited CP:=⟨⟨(.bool true, .bool true),rfl⟩⟩
def nI {M:Imm} {ρ:Ren} (p:R9 cells xs M ρ):List CP:=((cells p.1.1).zip p.1.2).attach.map λq=>⟨q.1,by
 have h1:=(of_mem_zip q.2).1;exact all_eq_true.1 p.2.2.2 _ h1⟩
def bX (p:R9 cells xs M ρ):(nI p).map (λq=>q.1.1)=cells p.1.1:=by
 have a:=zW p.2.2.1;unfold nI;rw[map_map];show List.map (λq: {q // q∈(cells p.1.1).zip p.1.2} =>q.1.1) _=_;rw[show(λq: {q // q∈(cells p.1.1).zip p.1.2} =>q.1.1)=Prod.fst ∘ Subtype.val from rfl,<-map_map,attach_map_subtype_val,map_fst_zip ow]
def bY (p:R9 cells xs M ρ):(nI p).map (λq=>q.1.2)=p.1.2:=by
 have a:=zW p.2.2.1;unfold nI;rw[map_map];show List.map (λq: {q // q∈(cells p.1.1).zip p.1.2} =>q.1.2) _=_;rw[show(λq: {q // q∈(cells p.1.1).zip p.1.2} =>q.1.2)=Prod.snd ∘ Subtype.val from rfl,<-map_map,attach_map_subtype_val,map_snd_zip ow]
def Ri (p:R9 cells xs M ρ):∀q∈nI p,rel M ρ q.1.1 q.1.2:=λq d=>by
 obtain⟨i,c⟩:=mem_iff_getElem?.1 d;have a:=congrArg (λl=>l[i]?) (bX p);have b:=congrArg (λl=>l[i]?) (bY p);simp only[getElem?_map,c,Option.map_some] at a b;obtain⟨v,e1,e2⟩:=qC p.2.2.1 i _ a.symm;rw[<-b] at e1;cases e1;exact e2
theorem bZ:∀ {e c:List D} {vs:List Value},yD M ρ (e++c) vs->∃b d,vs=b++d/\yD M ρ e b/\yD M ρ c d
 | [],c,vs,h=>⟨[],vs,rfl,by simp only[yD],h⟩
 |a::e,c,vs,h=>by
  simp only[cons_append,yD] at h;obtain⟨v,i,rfl,h1,f⟩:=h;obtain⟨b,d,rfl,h3,g⟩:=bZ f;exact⟨v::b,d,rfl,by simp only[yD];exact⟨v,b,rfl,h1,h3⟩,g⟩
theorem zA.of_sortK {mid:List D} {midV:List Value} (bx:∀M ρ vs,yD M ρ mid vs->vs=midV) (h0:xs≠[]) (ak:0<k) (hk:∀x∈xs,(cells x).length=k) (he:wu P f=true) (b7:∀args w,(callFunc cmp args).run P w= .ok (.enter cmp args) w)
  (Y:h.at' id=some (.row (pre++(xs.map cells).flatten++post))) (hO:SWO (ltOf cf)) (bo:xs.length<4611686018427387904)
  (a7:∀x∈xs,∀y∈xs,∀H,zA P cmp [.agg (cells x), .agg (cells y)] H λr H'=>H'=H/\r= .int .i64 (cf x y))
  (bs:∀ (α:Type) [Inhabited α] (enc:α->List Value),(∀x,(enc x).length=k)->(∀x,∀v∈enc x,v.oneCell'=true)->∀ (cf:α->α->Int),SWO (ltOf cf)->∀ (g:Nat) (cb:Array Value) (F off cap:Nat) (d:Array α) (w:World),
   (∀args w,(callFunc g args).run P w= .ok (.enter g args) w)->CmpLays P g cb enc k cf F off d.size w->HoldsK enc k w F off d->F<w.heap.size->d.size<4611686018427387904->
   d.size=xs.length->Calls P f (.slice (some ⟨F,off,none⟩) d.size cap::(midV++ [.func (.func g) #[] cb])).toArray w λe w'=>e= .returned (.tuple #[])/\∃A n os,PermIn 0 d.size d A/\SortedIn (ltOf cf) 0 d.size A/\w'=sortWorldK enc k w F off n A os):
  zA P f (.rs id k pre.length xs.length::(mid++ [.fn (.func cmp) [] []])) h λr h'=>r= .tuple []/\∃ys:List β,ys.Perm xs/\ys.Pairwise (λa b=>¬cf b a<0)/\h'=h.set id (.row (pre++(ys.map cells).flatten++post)):=by
 refine⟨he,λw0 G M ρ w va T Z bk hr=> ?_⟩;simp only[yD] at hr;obtain⟨v,da,cp,hv,cu⟩:=hr;obtain⟨vm,vf,rfl,a2,b5⟩:=bZ cu;have a2:=bx _ _ _ a2;subst a2;simp only[yD] at b5;obtain⟨v2,db,rfl,b3,rfl⟩:=b5;simp only[rel,yD] at hv b3;obtain⟨_,c2,l,cap,o,hl,rfl,⟨c3,c4⟩,c9,ho⟩:=hv;obtain⟨_,fa,fc,rfl,b9,ca⟩:=b3;have a9:fa= #[]:=Array.ext' (by simpa using b9);have ba:fc= #[]:=Array.ext' (by simpa using ca);subst a9 ba;have cv:0<xs.length:=length_pos_iff.2 h0;have ho:o=pre.length:=by
  rcases ho with hz|ho
  ·omega
  ·exact ho
 subst ho;have b4:va=(.slice (some ⟨l.blk,pre.length,none⟩) xs.length cap::(vm++ [.func (.func cmp) #[] #[]])).toArray:=Array.ext' (by simpa using cp);subst b4;obtain⟨l',h1,O,hM,c,e,hw,c8,a6,B⟩:=Z.live id _ Y;rw[hl] at h1;cases h1;have a5:l.blk<w.heap.size:=(Array.getElem?_eq_some_iff.1 hw).1;have hL:∀x∈xs.map cells,x.length=k:=λx hx=>by
  obtain⟨y,hy,rfl⟩:=mem_map.1 hx;exact hk y hy
 have bb:(xs.map cells).flatten.length=xs.length*k:=by rw[qD hL,length_map]
 have S:∀i (E:i<xs.length),((c.toList.drop (pre.length+i*k)).take k).length=k/\yD M ρ (cells xs[i]) ((c.toList.drop (pre.length+i*k)).take k)/\(cells xs[i]).all D.flat=true:=λi E=>by
  have c7:i*k+k<=xs.length*k:=by rw[<-Nat.succ_mul];exact Nat.mul_le_mul_right k E
  have c0:pre.length+xs.length*k+post.length<=c.size:=by have q:=a6;rwa [length_append,length_append,bb] at q
  have a0:=fI hL (i:=i) (x:=cells xs[i]) (by rw[getElem?_map,getElem?_eq_getElem E];rfl);have ch:=hk xs[i] (getElem_mem E);have a4:∀j d,(cells xs[i])[j]? =some d->(pre++(xs.map cells).flatten++post)[pre.length+(i*k+j)]? =some d:=λj d N=>by
   have ai:j<k:=by have:=(List.getElem?_eq_some_iff.1 N).1;omega
   rw[append_assoc,getElem?_append_right ow,Nat.add_sub_cancel_left,getElem?_append_left ow];rw[<-a0,getElem?_take,ip ai,getElem?_drop] at N;exact N
  have Q:((c.toList.drop (pre.length+i*k)).take k).length=k:=by
   rw[length_take,length_drop,Array.length_toList];omega
  refine⟨Q,yG (by rw[Q,ch]) λj d v C hv=> ?_,all_eq_true.2 λd C=> ?_⟩
  ·have ai:j<k:=by have:=(List.getElem?_eq_some_iff.1 C).1;omega
   obtain⟨_,u,e1,e2⟩:=B _ _ (a4 j d C);rw[getElem?_take,ip ai,getElem?_drop,Array.getElem?_toList,Nat.add_assoc,e1] at hv;cases hv;exact e2
  ·obtain⟨j,N⟩:=mem_iff_getElem?.1 C;exact(B _ _ (a4 j d N)).1
 let mk:_root_.Fin xs.length->R9 cells xs M ρ:=λi=>⟨(xs[i.1],(c.toList.drop (pre.length+i.1*k)).take k),getElem_mem i.2,(S i.1 i.2).2.1,(S i.1 i.2).2.2⟩
 letI:Inhabited (R9 cells xs M ρ):=⟨mk ⟨0,cv⟩⟩
 let enc:R9 cells xs M ρ->List Value:=λp=>p.1.2
 have J:∀p,(enc p).length=k:=λp=>by rw[show(enc p).length=(cells p.1.1).length from zW p.2.2.1];exact hk _ p.2.1
 have ad:∀p,∀v∈enc p,v.oneCell'=true:=λp=>wb p.2.2.1 p.2.2.2
 let d:Array (R9 cells xs M ρ):=Array.ofFn mk
 have C:d.size=xs.length:=by simp[d]
 have b8:∀i (E:i<xs.length),d[i]! =mk ⟨i,E⟩:=λi E=>by rw[getElem!_pos d i (by rw[C];exact E)];simp[d]
 have a8:d.toList.map (λp=>p.1.1)=xs:=by
  apply ext_getElem?;intro i;rw[getElem?_map,Array.getElem?_toList];by_cases E:i<xs.length
  ·rw[Array.getElem?_eq_getElem (by rw[C];exact E),getElem?_eq_getElem E,Option.map_some];simp[d,mk]
  ·rw[Array.getElem?_eq_none ow,getElem?_eq_none ow];rfl
 have s:∀ (V:Array (R9 cells xs M ρ)),(V.toList.map nI).flatten.map (λq=>q.1.1)=((V.toList.map λp=>p.1.1).map cells).flatten/\(V.toList.map nI).flatten.map (λq=>q.1.2)=(V.toList.map enc).flatten:=λV=>by
  constructor
  ·rw[map_flatten,map_map,map_map];congr 1;exact map_congr_left λp _=>bX p
  ·rw[map_flatten,map_map];congr 1;exact map_congr_left λp _=>bY p
 have b6:SWO (ltOf λp q:R9 cells xs M ρ=>cf p.1.1 q.1.1):=⟨λx=>hO.irrefl _,λx y z=>hO.trans _ _ _,λx y z=>hO.ntrans _ _ _⟩;have c1:pre.length+xs.length*k+post.length<=c.size:=by have q:=a6;rwa [length_append,length_append,bb] at q
 have U:HoldsK enc k w l.blk pre.length d:=by
  intro j N;rw[size_flatK,C] at N;refine⟨?_,by simp[World.frozen?,hw]⟩;rw[get_flatK enc k d j (by rw[C];exact N)];have X:j/k<xs.length:=by rw[Nat.div_lt_iff_lt_mul ak];exact N
  have hm:j%k<k:=Nat.mod_lt _ ak;rw[b8 _ X];have cs:=(S (j/k) X).1;show _=some (_root_.id ((((c.toList.drop (pre.length+j/k*k)).take k))[j%k]!));have e5:j/k*k+j%k=j:=by rw[Nat.mul_comm];exact Nat.div_add_mod j k
  have e6:((c.toList.drop (pre.length+j/k*k)).take k)[j%k]? =c[pre.length+j]? :=by
   rw[getElem?_take,ip hm,getElem?_drop,Nat.add_assoc,e5,Array.getElem?_toList]
  have h9:j%k<((c.toList.drop (pre.length+j/k*k)).take k).length:=by rw[cs];exact hm
  have e8:c[pre.length+j]? =some (((c.toList.drop (pre.length+j/k*k)).take k)[j%k]'h9):=by rw[<-e6];exact getElem?_eq_getElem h9
  rw[getElem!_pos (((c.toList.drop (pre.length+j/k*k)).take k)) (j%k) h9];simp only[World.cell?,hw,Option.isSome_none,Bool.false_eq_true,if_false,_root_.id];exact e8
 have au:CmpLays P cmp #[] enc k (λp q=>cf p.1.1 q.1.1) l.blk pre.length d.size w:=by
  intro m os V c6 x y;have K:=jW enc k w l.blk pre.length m V os;have ag:QT P (sortWorldK enc k w l.blk pre.length m V os):=⟨λg hg=>by
   have h2:=T.here Z.below hg;unfold Lib.TabIs World.var? at h2⊢;rw[hg] at h2⊢;simp only[Option.bind_some] at h2⊢;have L:=(T.1 g hg).1;rw[K g (λq=>O (q▸L)) (lt_of_lt_of_le (w0.kept g L) Z.below.size)];exact h2,λg hg=>by
   obtain⟨m,hm⟩:=T.max Z.below hg;have L:=(T.2 g hg).1;exact⟨m,(World.cell?_of_block (w:=w) (K g (λq=>O (q▸L)) (lt_of_lt_of_le (w0.kept g L) Z.below.size))).trans hm⟩⟩
  refine zA.stays (λH=>(a7 x.1.1 x.2.1 y.1.1 y.2.1 H).mono λr H' X=>X.2) (λM ρ v hv=>by simp only[rel] at hv;exact hv.1) (M:=M) (ρ:=ρ) (n:=h.next) (λb o v hb=> ?_) ag bk ?_
  ·have cl:b≠l.blk:=λq=>by subst q;rw[hM o] at hb;cases hb
   rw[<-Z.imm b o v hb];exact World.cell?_of_block (w:=w) (K b cl (Z.lt hb))
  ·have W:∀p:R9 cells xs M ρ,rel M ρ (.agg (cells p.1.1)) (.agg (enc p).toArray):=λp=>by
    simp only[rel];exact⟨_,rfl,by simpa using p.2.2.1,p.2.2.2⟩
   show yD M ρ _ [_,_];simp only[yD];exact⟨_,_,rfl,W x,_,_,rfl,W y,rfl⟩
 have I:=bs (R9 cells xs M ρ) enc J ad (λp q=>cf p.1.1 q.1.1) b6 cmp #[] l.blk pre.length cap d w b7 au U a5 (by rw[C];exact bo) C;rw[C] at I;refine I.mono λe w' X=> ?_;obtain⟨rfl,A,n,os,t,R,rfl⟩:=X;rw[<-C] at t;have b1:=PermIn.list t;have c5:A.size=xs.length:=by rw[t.1,C]
 have cw:(A.toList.map λp=>p.1.1).Perm xs:=by
  have q:=b1.map (λp=>p.1.1)
  rwa [a8] at q
 have a1:h.at' id=some (.row (pre++(d.toList.map nI).flatten.map (λq=>q.1.1)++post)):=by rw[(s d).1,a8];exact Y
 have b2:((A.toList.map nI).flatten:List CP).Perm (d.toList.map nI).flatten:=(b1.map _).flatten;have hS:=(Z.ahead n).putRow (α:=CP) (enc:=λq=>q.1.2) (dd:=λq=>q.1.1) (λq=>q.2) a1 hl b2.length_eq (λq X=>by
  obtain⟨p,hp,cm⟩:=mem_flatten.1 X;obtain⟨x,hx,rfl⟩:=mem_map.1 hp;exact Ri x q cm)
 have a3:=hS.grow os;rw[kG,map_toArray,(s A).2,<-Rh J ak A,(s A).1] at a3;refine⟨.tuple #[],M,ρ, .tuple [],_,rfl,MLe.refl _,RLe.refl _,a3,bk,by simp only[rel,yD];exact⟨#[],rfl,rfl⟩,rfl,A.toList.map (λp=>p.1.1),cw,?_,rfl⟩;rw[pairwise_map,pairwise_iff_getElem];intro i j E N cc;have cg:j<A.size:=by simpa using N
 have:=R i j (zero_le _) cc ow;rw[getElem!_pos A j cg,getElem!_pos A i ow] at this;simpa [ltOf] using this
end
open Go.Proofs
def QC.swo {c:β->β->Int} (h:QC c):Go.Sort.SWO (ltOf c) where
 irrefl x:=by simp[ltOf,h.refl]
 trans x y z h1 h2:=by
  simp only[ltOf,decide_eq_true_eq] at *
  exact h.ltle h1 ow
 ntrans x y z h1 h2:=by
  simp only[ltOf,decide_eq_false_iff_not] at *
  have a1:=h.anti x y;have a2:=h.anti y z;have a3:=h.anti x z;have:=h.trans z y x ow ow;omega
open Go.Proofs.Tryz
open Go.Proofs Go.Shelf Go.Sort
set_option maxRecDepth 100000
def XF (l:n<=1048576) (h:Heap):zA prog 75 [.int .u64 (n:Int)] h λr h'=>h'=h/\r= .int .i64 (Lib.bitLen n:Nat):=by
 refine(zA.of_lib (P:=prog) (f:=75) (ds:=[.int .u64 (n:Int)]) (d:= .int .i64 (Lib.bitLen n:Nat)) kr (λM ρ j w hr=> ?_) h).mono λa b c=>⟨c.2,c.1⟩;simp only[yD,rel] at hr;obtain⟨v,vs,e,⟨rfl,_⟩,rfl⟩:=hr;have ev:j= #[.int .u64 (n:Int)]:=Array.ext' (by simpa using e);subst ev;have g:=Any.bits_Len (SlLaysF0.n15.bits (P:=prog) (ρ:=Tryz.sortLic_ren) { Tryz.sortLic with }) (n:Int) w ow ow;refine Calls.mono g λe m i=> ?_;obtain⟨rfl,rfl⟩:=i;refine⟨_,rfl,Bel.refl _ _,λM' o=> ?_⟩;rw[Int.toNat_natCast];have k:=Lib.bitLen_le n 62 ow ow;exact yj (by unfold fits;rw[zd ow ow])
def Jj {a b c:Int} (h:yD M ρ [.int .i64 a, .int .i64 b, .int .i64 c] vs):vs= [.int .i64 a, .int .i64 b, .int .i64 c]:=by
 simp only[yD,rel] at h;obtain⟨_,_,rfl,⟨rfl,_⟩,_,_,rfl,⟨rfl,_⟩,_,_,rfl,⟨rfl,_⟩,rfl⟩:=h;rfl
def zAr {id:Nat} {l:List Trm} (h0:l≠[]) (C:l.length<=1048576) (a:g.at' id=some (.row (yT l).flatten)):
  zA prog 296 [.rs id 2 0 l.length, .int .i64 0, .int .i64 l.length, .int .i64 (Lib.bitLen l.length:Nat), .fn (.func 236) [] []] g λr h'=>r= .tuple []/\h'=g.set id (.row (yT (srt zR l)).flatten):=by
 have q:=Lib.bitLen_le l.length 62 ow ow;have:=zA.of_sortK (P:=prog) (f:=296) (cmp:=236) (k:=2) (cells:=Trm.cells) (xs:=l) (id:=id) (pre:=[]) (post:=[]) (h:=g) (cf:=zR) (mid:=[.int .i64 0, .int .i64 l.length, .int .i64 (Lib.bitLen l.length:Nat)]) (λM ρ vs h=>Jj h) h0 ow (λ_ _=>rfl) kr (enters_of func236 kr rfl) (by simpa [yT] using a) oD.swo ow
  (λx _ y _ H=>nG x y H) (λα _ enc h1 o cf j g cb b off cap d w u s i p c m=>by
   have:=AnyQ.pdqsortCmpFunc_all Tryz.pdqTrm 2 (isAgg130) (sizeOf130) enc cf g cb j b off cap d w u s ⟨h1,o,i,p⟩ (d.size+1) 0 d.size (Lib.bitLen d.size) d w ow rfl (SWK.start i) (Nat.zero_le _) (Nat.le_refl _) c (by rw[m];omega) (Or.inl rfl);rw[<-m];refine Calls.mono this λe D z=> ?_;obtain⟨t,n,B,A⟩:=z;have h:=pdq_sorts (ltOf cf) j d 0 d.size (Lib.bitLen d.size) true true (Nat.zero_le _) (Nat.le_refl _) (Or.inl rfl);exact⟨t,_,n,B,h.1,h.2,A⟩)
 refine this.mono λr h' ⟨e1,ys,v,c,e2⟩=>⟨e1,?_⟩;rw[e2,TK oD mz v c];simp[yT]
def EU {id:Nat} {l:List Trm} (h0:l≠[]) (d:l.length<=1048576) (a:g.at' id=some (.row (yT l).flatten)):
  zA prog 235 [.rs id 2 0 l.length, .fn (.func 236) [] []] g λr h'=>r= .tuple []/\h'=g.set id (.row (yT (srt zR l)).flatten):=by
 have e:=λ(h:Heap)=>tQ (P:=prog) (t:=128) (sz:=2) (id:=id) (off:=0) (len:=l.length) (h:=h) underlying128;have f:u9 prog 3 145 (.int .i64 (l.length:Int))=some (.int .u64 (l.length:Int)):=by
  have i:prog.underlying 145=some (.int .u64):=by kernel_rfl
  have j:IntKind.u64.wrap (l.length:Int)=l.length:=by
   unfold IntKind.wrap;simp[IntKind.signed,IntKind.bits];omega
  simp only[u9,underlying3,i,j]
 have b:=XF d;have c:=zAr h0 d a;refine xO mix func235 zDE rfl rfl ?_;simp only[f235,gJ]
 repeat' first|simp only[go_sem, *]|apply bc<;>intro k|(refine zA.mono (b _) ?_;rintro r h ⟨rfl,rfl⟩)|(refine zA.mono c ?_;rintro r h ⟨rfl,rfl⟩)
structure Alt where
 ts:List Trm
 d:D
structure Alt.Ok (a:Alt):Prop where
 sl:zZ 2 (yT a.ts) a.d
 ne:a.ts≠[]
 len:a.ts.length<=4096
def mkA (ts:List Trm):Alt:=⟨ts, .sl 2 (yT ts) .no⟩
def zj (l:List Alt):List (List D):=l.map λa=>[a.d]
def zX (l:List Alt):(zj l).length=l.length:=List.length_map ..
def Jk {l:List Alt} (h:i<l.length):(zj l)[i]? =some [l[i].d]:=by simp[zj,h]
def wA (l:List Alt):∀x∈zj l,x.length=1:=λx a=>by
 obtain⟨s,_,rfl⟩:=List.mem_map.1 a;rfl
def uU (l:List Alt):(zj l).flatten=l.map Alt.d:=by
 induction l with
 |nil=>rfl
 |cons a l b=>simp only[zj,List.map_cons,List.flatten_cons] at b⊢;rw[b];rfl
def qW {l:List Alt} (a:zZ 1 (zj l) d) (h:Heap):tU prog 30 d h=some (.int .i64 l.length):=by rw[yc a underlying30,zX]
def uz {l:List Alt} (a:zZ 1 (zj l) d) (b:i<l.length):zQ prog 30 d (.int .i64 (i:Int))=some (.iptr [l[i].d] 0):=zb a ym yp (Jk b)
def lC (a:List Trm):yf [(mkA a).d]:=by
 have h:=yB (sz:=2) (xs:=yT a) (λx b=>by
  obtain⟨y,_,rfl⟩:=List.mem_map.1 b;exact⟨rfl,by simp[Trm.cells,zf,below],rfl⟩) .no
 exact⟨rfl,by simp only[zf];exact⟨h.2,trivial⟩,by simp only[zq];rw[show(mkA a).d= .sl 2 (yT a) .no from rfl,h.1]⟩
variable {f:FuncId}{P:Program}{k:Nat}
def XG {l:List Alt} (n:zZ 1 (zj l) d) (D:l.length<=1048576) {p:Alt->Bool} (z:∀s∈l,zZ 2 (yT s.ts) s.d/\zA prog f ([]++ [s.d]++cap) g λr h'=>h'=g/\r= .bool (p s)):
  zA prog 149 [d, .fn (.func f) [] cap] g λr h'=>h'=g/\r= .int .i64 (Zr p l):=by
 have o:=qW n;refine xO mix func149 Bo rfl rfl ?_;simp only[f149,gJ]
 repeat' first|simp only[go_sem, *]|apply bc<;>intro m
 refine zD (λi fr h=>fr 1= .fn (.func f) [] cap/\fr 0=d/\fr 6=d/\fr 7= .int .i64 (l.length:Int)/\fr 8= .int .i64 (i:Int)/\h=g/\∀j (b:j<l.length),j<i->p l[j]=false) l.length ow ?_ ?_ ?_
 ·simp only[go_sem,true_and,and_true,Int.ofNat_zero];exact λj b h0=>by omega
 ·rintro i fr h a e1 C ⟨t,q,u,v,w,rfl,b⟩;have B:=uz n a;obtain⟨y,e⟩:=z _ (List.getElem_mem a);obtain⟨k1,k2,k3⟩:=zJ y;simp only[List.nil_append,List.cons_append] at e;cases k:p l[i] with
  |true=>
   have A:=p4 a b k;rw[k] at e
   repeat' first|simp only[go_sem, *]|apply bc<;>intro m|(refine zA.mono e ?_;rintro r h ⟨rfl,rfl⟩)
  |false=>
   have x:=qM (p:=p) a b k;rw[k] at e
   repeat' first|simp only[go_sem, *]|apply bc<;>intro m|(refine zA.mono e ?_;rintro r h ⟨rfl,rfl⟩)
   exact x
 ·rintro fr h e1 ⟨t,q,u,v,w,rfl,b⟩;have A:=p5 (p:=p) λj c=>b j c c;exact au
def oE {l:List Alt} (b:zZ 1 (zj l) d) (e:l.length<=1048576) {p:Alt->Bool} (i:∀s∈l,zZ 2 (yT s.ts) s.d/\zA prog f ([]++ [s.d]++cap) g λr h'=>h'=g/\r= .bool (p s)):
  zA prog 76 [d, .fn (.func f) [] cap] g λr h'=>h'=g/\r= .bool (l.any p):=by
 have a:=XG b e i;have c:=p0 (l:=l) (p:=p);refine xO mix func76 zGV rfl rfl ?_;simp only[f76,gJ]
 repeat' first|simp only[go_sem, *]|apply bc<;>intro j|(refine zA.mono a ?_;rintro r h ⟨rfl,rfl⟩)
def nc (d:D) (nid:Nat) (h:Heap) (h1:d.cells= [d]) (a:d.notTuple=true) (h3:d.flat=true):zI prog false nid 30 1 [(0,d)] h=some (.sl 1 [[d]] .full,h):=by
 have:=zz (P:=prog) (nid:=nid) (h:=h) (x:=d) ym pv yp rfl rfl ow ow a (by rw[h1];rfl);rw[h1] at this;exact this
def zAs {id:Nat} {a b:Alt} (c:a.Ok) (e:b.Ok) (i:g.at' id=some (.row [a.d])):
  zA prog 240 [b.d, .ptr id 0] g λr h'=>h'=g/\r= .bool (mr a.ts b.ts):=by
 have f:=ZQ c.sl e.sl (by have:=c.len;omega) (by have:=e.len;omega);refine xO mix func240 zE2 rfl rfl ?_;simp only[f240,gJ]
 repeat' first|simp only[go_sem, *]|apply bc<;>intro f|(refine zA.mono (f _) ?_;rintro r h ⟨rfl,rfl⟩)
end Go.V
