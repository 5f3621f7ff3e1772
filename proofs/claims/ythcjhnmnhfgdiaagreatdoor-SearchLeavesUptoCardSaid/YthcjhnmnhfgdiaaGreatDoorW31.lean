/- Contracts of functions that the law reaches, part 1. No condition. -/
import Derived.Test.YthcjhnmnhfgdiaaGreatDoorW30
set_option linter.all false
set_option maxHeartbeats 8000000
namespace Go.V
open Go.Proofs.Tryz
open Go.Proofs
set_option maxRecDepth 100000
inductive Ex where
 |mk:Int->List UInt8->List UInt8->List Ex->D->Ex
def Ex.kind:Ex->Int
 | .mk k _ _ _ _=>k
def Ex.name:Ex->List UInt8
 | .mk _ n _ _ _=>n
def Ex.exc:Ex->List UInt8
 | .mk _ _ x _ _=>x
def Ex.kids:Ex->List Ex
 | .mk _ _ _ l _=>l
def Ex.d:Ex->D
 | .mk _ _ _ _ d=>d
def Ex.cells (e:Ex):List D:=[.int .i64 e.kind, .str e.name, .str e.exc,e.d]
def exs (l:List Ex):List (List D):=l.map Ex.cells
def Rc (l:List Ex):(exs l).length=l.length:=List.length_map ..
variable {i j id:Nat}{d x:D}{S:Nat->Prop}{g:Heap}{s:List UInt8}{c:Cat}
def EL {l:List Ex} (h:i<l.length):(exs l)[i]? =some l[i].cells:=by simp[exs,h]
mutual
def Ex.size:Ex->Nat
 | .mk _ _ _ l _=>zh l+1
def zh:List Ex->Nat
 | []=>0
 |e::l=>e.size+zh l
end
mutual
def Ex.depth:Ex->Nat
 | .mk _ _ _ l _=>tL l+1
def tL:List Ex->Nat
 | []=>0
 |e::l=>max e.depth (tL l)
end
mutual
def Ex.Ok:Ex->Prop
 | .mk _ n x l d=>zZ 4 (exs l) d/\l.length<=1048576/\n.length<=1048576/\x.length<=1048576/\okL l
def okL:List Ex->Prop
 | []=>True
 |e::l=>e.Ok/\okL l
end
theorem uA:∀ {l:List Ex},okL l->∀e∈l,e.Ok
 |e::l,h,x,a=>by
  simp only[okL] at h;rcases List.mem_cons.1 a with rfl|a
  ·exact h.1
  ·exact uA h.2 x a
theorem yY:∀ {l:List Ex} {e:Ex},e∈l->e.size<=zh l
 |x::l,e,h=>by
  simp only[zh];rcases List.mem_cons.1 h with rfl|h
  ·omega
  ·have:=yY h;omega
def JZ:∀n:Nat,(∀e:Ex,e.size<=n->e.depth<=e.size)/\∀l:List Ex,zh l<=n->tL l<=zh l:=by
 intro n
 induction n with
 |zero=>
  refine⟨λe h=> ?_,λl h=> ?_⟩
  ·cases e;simp only[Ex.size] at h;omega
  ·cases l with
   |nil=>simp[tL]
   |cons e l=>cases e;simp only[zh,Ex.size] at h;omega
 |succ n b=>
  have key:∀e:Ex,e.size<=n+1->e.depth<=e.size:=λe h=>by
   obtain⟨_,_,_,l,_⟩:=e;simp only[Ex.size,Ex.depth] at h⊢;have:=b.2 l ow;omega
  refine⟨key,λl h=> ?_⟩
  induction l with
  |nil=>simp[tL]
  |cons e l a=>
   simp only[zh,tL] at h⊢;have h1:=key e ow;have c:=a ow;omega
theorem fY (e:Ex):∀l:List Ex,tL (l++ [e])=max (tL l) e.depth
 | []=>by simp[tL]
 |x::l=>by
  have:=fY e l;simp only[List.cons_append,tL,this];omega
def uB {l:List Ex} (a:zZ 4 (exs l) d) (h:Heap):tU prog 54 d h=some (.int .i64 l.length):=by rw[yc a underlying54,Rc]
def rX {l:List Ex} (a:zZ 4 (exs l) d) (b:i<l.length):zQ prog 54 d (.int .i64 (i:Int))=some (.iptr l[i].cells 0):=zb a Ka Qy (EL b)
def zFM (a b:Nat):L9 (.int .i64 (a:Int)) (.int .i64 (b:Int))=some (.int .i64 ((max a b:Nat):Int)):=by
 simp only[L9,if_true];by_cases q:(b:Int)>a
 ·rw[ip q,Nat.max_eq_right ow]
 ·rw[iq q,Nat.max_eq_left ow]
abbrev zEx:List D:=[.int .i64 0, .str [], .str [], .nilsl]
def MM (x:Ex) (hf:x.d.flat=true) (h:Heap) (id:Nat):zP prog 56 (.ptr id 0) (.agg [.int .i64 x.kind, .str x.name, .str x.exc,x.d]) (h.new id (.row zEx))=some (h.new id (.row [.int .i64 x.kind, .str x.name, .str x.exc,x.d])):=zg Qy ow rfl rfl (by show(true&&(true&&(true&&(x.d.flat&&true))))=true;rw[hf];rfl)
def Ex.flat {x:Ex} (h:x.Ok):x.d.flat=true:=by
 cases x;simp only[Ex.Ok] at h;exact rG h.1
def EM:∀ (n:Nat) {e:Ex},e.size<=n->e.Ok->e.size<=1048576->∀g:Heap,zA prog 228 [.agg e.cells] g λr h'=>h'=g/\r= .int .i64 (e.depth:Int):=by
 intro n
 induction n with
 |zero=>intro e h;cases e;simp only[Ex.size] at h;omega
 |succ n t=>
 intro e I f s g;refine xU kr λM=> ?_;obtain⟨k,K,x,l,d⟩:=e;simp only[Ex.size,Ex.Ok] at I f s;obtain⟨m,N,_,_,a⟩:=f;have y:=uB m;have H:=(JZ (zh l)).2 l (Nat.le_refl _);have w:∀k:Int,below g.next (.int .i64 k):=λk=>trivial;have p:=Ext.refl g;have v:(Ex.mk k K x l d).depth=tL l+1:=by simp only[Ex.depth]
 rw[v];clear v;refine xO mix func228 zAF rfl rfl ?_;simp only[f228,gJ];simp only[Ex.cells,Ex.kind,Ex.name,Ex.exc,Ex.d]
 repeat' first|simp only[go_sem, *]|apply bc<;>intro G
 refine zD (λi fr h=>fr 7=d/\fr 8= .int .i64 (l.length:Int)/\fr 9= .int .i64 (i:Int)/\fr 3= .int .i64 ((tL (l.take i):Nat):Int)/\Ext g h) l.length ow ?_ ?_ ?_
 ·simp only[go_sem,true_and,and_true,Int.ofNat_zero];exact⟨rfl,p⟩
 ·rintro i fr h b B L ⟨C,D,E,u,o⟩;have A:=rX m b;have c:l[i]∈l:=List.getElem_mem b;have z:=t (e:=l[i]) (by have:=yY c;omega) (uA a _ c) (by have:=yY c;omega);have J:=MM l[i] (Ex.flat (uA a _ c)) h h.next;have F:=o.new o.1 (.row [.int .i64 l[i].kind, .str l[i].name, .str l[i].exc,l[i].d]);have q:=zFM (tL (l.take i)) l[i].depth;have j:tL (l.take (i+1))=max (tL (l.take i)) l[i].depth:=by rw[List.take_succ_eq_append_getElem b,fY]
  rw[<-j] at q;simp only[Ex.cells] at A z;clear t m c j
  repeat' first|simp only[go_sem,zK, *]|apply bc<;>intro G|(refine zA.mono (z _) ?_;rintro r h ⟨rfl,rfl⟩)
 ·rintro fr h B ⟨C,D,E,u,o⟩;rw[List.take_length] at u;have O:IntKind.i64.wrap ((tL l:Int)+1)=((tL l+1:Nat):Int):=zw (by unfold lim;omega);clear t m a;exact au
mutual
def Ex.pre:Ex->List Ex
 | .mk k n x l d=> .mk k n x l d::jv l
def jv:List Ex->List Ex
 | []=>[]
 |e::l=>e.pre++jv l
end
def zFN:∀n:Nat,(∀e:Ex,e.size<=n->e.pre.length=e.size)/\∀l:List Ex,zh l<=n->(jv l).length=zh l:=by
 intro n
 induction n with
 |zero=>
  refine⟨λe h=> ?_,λl h=> ?_⟩
  ·cases e;simp only[Ex.size] at h;omega
  ·cases l with
   |nil=>simp[jv,zh]
   |cons e l=>cases e;simp only[zh,Ex.size] at h;omega
 |succ n b=>
  have key:∀e:Ex,e.size<=n+1->e.pre.length=e.size:=λe h=>by
   obtain⟨_,_,_,l,_⟩:=e;simp only[Ex.size,Ex.pre,List.length_cons] at h⊢;rw[b.2 l ow]
  refine⟨key,λl h=> ?_⟩
  induction l with
  |nil=>simp[jv,zh]
  |cons e l a=>
   simp only[zh,jv,List.length_append] at h⊢;rw[key e ow,a ow]
def Ex.pre_len (e:Ex):e.pre.length=e.size:=(V.zFN e.size).1 e (Nat.le_refl _)
def TG (l:List Ex):(jv l).length=zh l:=(V.zFN (zh l)).2 l (Nat.le_refl _)
theorem TH:∀l m:List Ex,jv (l++m)=jv l++jv m
 | [],m=>by simp[jv]
 |e::l,m=>by simp[jv,TH l m]
theorem ml:∀l m:List Ex,zh (l++m)=zh l+zh m
 | [],m=>by simp[zh]
 |e::l,m=>by simp[zh,ml l m];omega
def MN {l:List Ex} (c:i<l.length) {x:Ex} (a:l[i].pre[j]? =some x):(jv l)[zh (l.take i)+j]? =some x:=by
 have h1:l=l.take i++(l[i]::l.drop (i+1)):=by rw[<-List.drop_eq_getElem_cons c,List.take_append_drop]
 have d:j<l[i].pre.length:=(List.getElem?_eq_some_iff.1 a).1;have b:jv l=jv (l.take i)++(l[i].pre++jv (l.drop (i+1))):=by
  have:=congrArg jv h1;rw[TH] at this;exact this
 rw[b,List.getElem?_append_right (by rw[TG];omega),TG,show zh (l.take i)+j-zh (l.take i)=j by omega,List.getElem?_append_left d,a]
def Re {l:List Ex} (a:i<l.length):zh (l.take (i+1))=zh (l.take i)+l[i].size:=by
 rw[List.take_succ_eq_append_getElem a,ml];simp[zh]
def zCI (Y:Nat->(Nat->Prop)->Heap->Prop) (Z:(Nat->Prop)->Heap->Prop) (S:Nat->Prop) (g:Heap) (k:Nat) (r:D) (h':Heap):Prop:=
 ∃S',(∀i,S' i->S i\/g.next<=i)/\But S g h'/\((r= .bool true/\Y k S' h')\/(r= .bool false/\Z S' h'))
abbrev uw (v:Nat):D:= .fn (.func 230) [] [.ptr v 0]
theorem EN {id len:Nat} {el:Nat->List D} {Y:Nat->(Nat->Prop)->Heap->Prop} {Z:(Nat->Prop)->Heap->Prop} (y:Yld prog id len el Y Z):∀ (n:Nat) {e:Ex},e.size<=n->e.Ok->∀ {k:Nat} {S:Nat->Prop} {g:Heap} {v:Nat},k+e.size<=len->(∀j x,e.pre[j]? =some x->el (k+j)= [.agg x.cells])->
  Y k S g->v<g.next->¬S v->g.at' v=some (.row [uw v])->
  zA prog 230 [.agg e.cells, .yld id, .ptr v 0] g (zCI Y Z S g (k+e.size)):=by
 intro n
 induction n with
 |zero=>intro e h;cases e;simp only[Ex.size] at h;omega
 |succ n R=>
 intro e hn f k S g v hk E hY hv I N;have p:=E 0 e (by cases e;simp[Ex.pre]);rw[Nat.add_zero] at p;obtain⟨kd,nm,x,l,d⟩:=e;simp only[Ex.size,Ex.Ok] at hn f hk;obtain⟨hd,hl,_,_,M⟩:=f;have L:∀j x,(jv l)[j]? =some x->el (k+1+j)= [.agg x.cells]:=λj x hx=>by
  have:=E (j+1) x (by simp only[Ex.pre,List.getElem?_cons_succ];exact hx);rw[<-this];congr 1;omega
 clear E;have a2:=uB hd;have O:(Ex.mk kd nm x l d).size=zh l+1:=by simp only[Ex.size]
 rw[O];have s:=y.go k S g ow hY;rw[p] at s;simp only[Ex.cells,Ex.kind,Ex.name,Ex.exc,Ex.d] at s;clear O p;refine xO mix func230 Bx rfl rfl ?_;simp only[f230,gJ];simp only[Ex.cells,Ex.kind,Ex.name,Ex.exc,Ex.d]
 repeat' first|simp only[go_sem, *]|apply bc<;>intro
 refine s.mono ?_;rintro r h ⟨S1,t,u,hr⟩;rcases hr with⟨rfl,C⟩ | ⟨rfl,ag⟩
 rotate_left
 ·have A:zCI Y Z S g (k+(zh l+1)) (.bool false) h:=⟨S1,t,u, .inr ⟨rfl,ag⟩⟩;clear s R;exact au
 clear s
 repeat' first|simp only[go_sem, *]|apply bc<;>intro
 refine zD (λi fr h'=>fr 1= .yld id/\fr 2= .ptr v 0/\fr 13=d/\fr 14= .int .i64 (l.length:Int)/\fr 15= .int .i64 (i:Int)/\∃S',(∀j,S' j->S j\/g.next<=j)/\But S g h'/\Y (k+1+zh (l.take i)) S' h') l.length ow ?_ ?_ ?_
 ·simp only[go_sem,true_and,and_true,Int.ofNat_zero];exact⟨S1,t,u,C⟩
 ·clear t u C;rintro i fr h w ec ew ⟨f1,f2,T,U,V,P,o,a,c⟩;have a1:=rX hd w;have hm:l[i]∈l:=List.getElem_mem w;have f:=uA M _ hm;have a4:=yY hm;have F:h.at' v=some (.row [uw v]):=by rw[a.2 v hv I];exact N
  have a5:v<h.next:=Nat.lt_of_lt_of_le hv a.1;have G:=MM l[i] (Ex.flat f) h h.next;obtain⟨H,hH,m,r1,r2,a3⟩:∃H,h.new h.next (.row [.int .i64 l[i].kind, .str l[i].name, .str l[i].exc,l[i].d])=H/\Ext h H/\H.at' h.next=some (.row [.int .i64 l[i].kind, .str l[i].name, .str l[i].exc,l[i].d])/\H.at' v=some (.row [uw v])/\h.next<H.next:=⟨_,rfl,(Ext.refl h).new (Nat.le_refl _) _,zK _ _ _,by rw[zG ow];exact F,by rw[zF];omega⟩;rw[hH] at G;have z:=Re w;have a0:zh (l.take i)+l[i].size<=zh l:=by
   have h1:l=l.take (i+1)++l.drop (i+1):=(List.take_append_drop _ _).symm;have h2:=congrArg zh h1;rw[ml,z] at h2;omega
  have J:¬P v:=λq=>(o v q).elim I ow;have b:=R (e:=l[i]) ow f (k:=k+1+zh (l.take i)) (S:=P) (g:=H) (v:=v) ow (λj x hx=>by
   have:=L _ x (MN w hx);rw[<-this];congr 1;omega) (y.ext c m) ow J r2
  simp only[Ex.cells] at a1 b;clear R hd hm f hH M
  repeat' first|simp only[go_sem, *]|apply bc<;>intro
  refine b.mono ?_;rintro r h3 ⟨Q,W,ak,hr⟩;have B:∀j,Q j->S j\/g.next<=j:=λj hj=>by
   rcases W j hj with q|q
   ·exact o j q
   ·exact .inr (by have:=a.1;have:=m.1;omega)
  have K:But S g h3:=(a.trans (m.but S) λi hi=> .inl hi).trans ak o;rcases hr with⟨rfl,X⟩ | ⟨rfl,ai⟩
  ·have ad:Y (k+1+zh (l.take (i+1))) Q h3:=by rw[z,<-Nat.add_assoc];exact X
   clear b a c m r1 r2 G
   repeat' first|simp only[go_sem, *]|apply bc<;>intro
   rw[<-z];exact⟨Q,B,ad⟩
  ·have A:zCI Y Z S g (k+(zh l+1)) (.bool false) h3:=⟨Q,B,K, .inr ⟨rfl,ai⟩⟩;clear b a c m r1 r2 G z;exact au
 ·clear t u C;rintro fr h ec ⟨f1,f2,T,U,V,P,o,a,c⟩;rw[List.take_length] at c;have A:zCI Y Z S g (k+(zh l+1)) (.bool true) h:=⟨P,o,a, .inl ⟨rfl,by rw[show k+(zh l+1)=k+1+zh l by omega];exact c⟩⟩;clear a c R;exact au
abbrev EO (v:Nat) (e:Ex):D:= .fn (.func 231) [] [.ptr v 0, .iptr e.cells 0]
def W1 (e:Ex) (g:Heap):zA prog 166 [.agg e.cells] g λr h'=>r=EO g.next e/\h'=g.new g.next (.row [uw g.next]):=by
 have a:∀ (t:TypeId) (nid:Nat) (h:Heap),kn t nid h (some .nilfn)=some (.ptr nid 0,h.new nid (.row [.nilfn])):=λ_ _ _=>rfl;have b:zP prog 290 (.ptr g.next 0) (uw g.next) (g.new g.next (.row [.nilfn]))=some (g.new g.next (.row [uw g.next])):=zg FO ow rfl rfl rfl;refine xO mix func166 BY rfl rfl ?_;simp only[f166,gJ];simp only[Ex.cells];simp only[go_sem, *];rfl
variable {e:Ex}
def ZP {el:Nat->List D} {Y:Nat->(Nat->Prop)->Heap->Prop} {Z:(Nat->Prop)->Heap->Prop} (y:Yld prog id e.size el Y Z) (f:e.Ok) {v:Nat} (d:∀j x,e.pre[j]? =some x->el j= [.agg x.cells])
  (n:Y 0 S g) (o:v<g.next) (c:¬S v) (b:g.at' v=some (.row [uw v])):
  zA prog 231 [.yld id, .ptr v 0, .iptr e.cells 0] g λ_ h'=>∃S',(∀i,S' i->S i\/g.next<=i)/\But S g h'/\(Y e.size S' h'\/Z S' h'):=by
 have a:=EN y e.size (Nat.le_refl _) f (k:=0) ow (λj x p=>by rw[Nat.zero_add];exact d j x p) n o c b;refine xO mix func231 AJ rfl rfl ?_;simp only[f231,gJ];simp only[Ex.cells] at a⊢;simp only[go_sem, *];refine a.mono ?_;rintro r h ⟨S',h1,l,h3⟩;rw[Nat.zero_add] at h3;have m:∃S',(∀i,S' i->S i\/g.next<=i)/\But S g h/\(Y e.size S' h\/Z S' h):=⟨S',h1,l,h3.imp And.right And.right⟩;clear h1 l h3 a;exact au
def zAi (c id:Nat) (L:LRec) (k:Nat) (S:Nat->Prop) (h:Heap):Prop:=
 (∀j,S j↔j=c\/j=id)/\c<id/\id<h.next/\h.at' c=some (.row [.int .i64 (k:Int)])/\h.at' id=some (.loop L)
theorem zAj (C:e.Ok) (X:e.size<=1048576) (g:Heap):zA prog 227 [.agg e.cells] g λr h'=>h'=g/\r= .int .i64 (e.size:Int):=by
 refine xU kr λhh=> ?_;have I:∀k:Int,below g.next (.int .i64 k):=λk=>trivial;have t:zP prog 3 (.ptr g.next 0) (.int .i64 0) (g.new g.next (.row [.int .i64 0]))=some (g.new g.next (.row [.int .i64 0])):=zg wc ow rfl rfl rfl;have d:=λh=>W1 e h;refine xO mix func227 A0 rfl rfl ?_;simp only[f227,gJ];simp only[Ex.cells] at d⊢
 repeat' first|simp only[go_sem, *]|apply bc<;>intro J
 refine(d _).mono ?_;rintro r h2 ⟨rfl,rfl⟩
 repeat' first|simp only[go_sem, *]|apply bc<;>intro J
 have e1:(g.new g.next (.row [.int .i64 0])).next=g.next+1:=zF _ _;rw[e1];obtain⟨G,F,A,m1,m2,mE⟩:∃G,(g.new g.next (.row [.int .i64 0])).new (g.next+1) (.row [uw (g.next+1)])=G/\G.next=g.next+2/\G.at' g.next=some (.row [.int .i64 ((0:Nat):Int)])/\G.at' (g.next+1)=some (.row [uw (g.next+1)])/\Ext g G:=
  ⟨_,rfl,zo _ ow _,by rw[zG ow];exact zK _ _ _,zK _ _ _,((Ext.refl g).new (Nat.le_refl _) _).new ow _⟩
 rw[F,A];clear F d t e1;generalize n:LRec.mk _ _ _ _ _ _ _=L;have y:Yld prog (g.next+2) e.size (λi=>[.agg (e.pre.getD i e).cells]) (zAi g.next (g.next+2) L) (λ_ _=>False):=by
  refine⟨λk S h y i w=> ?_,λk S h h' y V M=> ?_,λS h D=>D.elim,λS h h' D=>D.elim,λi S h3 w Z=> ?_⟩
  ·obtain⟨b,u,E,f,l⟩:=y;rcases(b i).1 w with rfl|rfl<;>omega
  ·obtain⟨b,u,E,f,l⟩:=y;exact⟨b,u,by omega,by rw[M _ ((b _).2 (.inl rfl))];exact f,by rw[M _ ((b _).2 (.inr rfl))];exact l⟩
  ·obtain⟨b,u,E,f,l⟩:=Z;have m:=l;rw[<-n] at m;refine yo.round (g:=Yg) mix m rfl kr kr kr ?_;simp only[go_sem];refine⟨m,?_⟩;generalize U:LRec.mk .busy _ _ _ _ _ _=B;have z:({ B with st:= .ready,pending:=none } :LRec)=L:=by rw[<-U,<-n]
   generalize c:Heap.set h3 (g.next+2) (.loop B)=h5;have Q:h5.at' g.next=some (.row [.int .i64 (i:Int)]):=by rw[<-c,zE ow];exact f
   have R:h5.at' (g.next+2)=some (.loop B):=by rw[<-c];simp[Heap.set]
   have a4:h5.next=h3.next:=by rw[<-c,zT]
   have ew:IntKind.i64.wrap ((i:Int)+1)=((i+1:Nat):Int):=zw (by unfold lim;omega);have W:zP prog 3 (.ptr g.next 0) (.int .i64 ((i+1:Nat):Int)) h5=some (h5.set g.next (.row [.int .i64 ((i+1:Nat):Int)])):=by
    rw[zS Q wc (by simp) rfl rfl];rfl
   repeat' first|simp only[go_sem, *]|apply bc<;>intro J
   have T:(h5.set g.next (.row [.int .i64 ((i+1:Nat):Int)])).at' (g.next+2)=some (.loop B):=by rw[zE ow];exact R
   refine qy T ⟨λj=>j=g.next\/j=g.next+2,λj K=> .inl K,⟨by simp only[zT];omega,λj K H=> ?_⟩, .inl ⟨rfl,λj=>Iff.rfl,u,by simp only[zT];omega,?_,?_⟩⟩
   ·have n1:j≠g.next:=λe=>H ((b j).2 (.inl e));have O:j≠g.next+2:=λe=>H ((b j).2 (.inr e));rw[zE O,zE n1,<-c,zE O]
   ·rw[zE ow,zC]
   ·rw[zC,z]
 have s:zAi g.next (g.next+2) L 0 (λj=>j=g.next\/j=g.next+2) (G.new (g.next+2) (.loop L)):=
  ⟨λj=>Iff.rfl,by omega,by rw[zo _ ow];omega,by rw[zG ow];exact m1,zK _ _ _⟩
 have a:=ZP y C (λj x Y=>by
  have:e.pre.getD j e=x:=by rw[List.getD_eq_getElem?_getD,Y];rfl
  rw[this]) s (v:=g.next+1) (by rw[zo _ ow];omega) ow (by rw[zG ow];exact m2)
 refine a.mono ?_;rintro r h ⟨S',s1,s2,P⟩;obtain⟨b,u,E,f,l⟩:=P.resolve_right (λq=>q);have p:L.st≠ .busy:=by rw[<-n];intro q;cases q
 have o:L.pending=none:=by rw[<-n]
 refine⟨L,l,p,?_⟩;rw[o,ur];have N:(h.del (g.next+2)).at' g.next=some (.row [.int .i64 (e.size:Int)]):=by rw[yI ow];exact f
 have hE:Ext g (h.del (g.next+2)):=by
  have V:(G.new (g.next+2) (.loop L)).next=g.next+3:=zo _ ow _;have ad:=s2.1;refine Ext.del ⟨by omega,λi w=> ?_⟩ ow;rw[s2.2 i ow ow,zG ow,mE.2 i w]
 clear a y s s1 s2 P n p o b f l;exact au
def bQ (d:s.length<=1048576) (g:Heap):zA prog 294 [.str s] g λr h'=>h'=g/\r= .bool (tR s):=by
 have e:∀h,zA prog 249 [.str s, .str [97,98,99,100,101,102,103,104,105,106,107,108,109,110,111,112,113,114,115,116,117,118,119,120,121,122,48,49,50,51,52,53,54,55,56,57,45,46]] h λr h'=>h'=h/\r= .str (Lib.trimS s kA):=λh=>H7 d (c:=kA) (by decide) (by decide) h;refine xO mix func294 Ak rfl rfl ?_;simp only[f294,gJ];cases s with
 |nil=>
  have e1:decide ((([]:List UInt8).length:Int)<1)=true:=rfl
  repeat' first|simp only[go_sem, *]|apply bc<;>intro a
  rfl
 |cons b r=>
  have e1:decide (((b::r).length:Int)<1)=false:=decide_eq_false (by simp only[List.length_cons];omega);have f:tF prog 9 (.str (b::r)) (.int .i64 0)=some (.int .u8 b.toNat):=wJ (n:=0) underlying9 rfl;have i:=fT b r;generalize j:b::r=s at *
  repeat' first|simp only[go_sem, *]|apply bc<;>intro a|(refine zA.mono (e _) ?_;rintro r h ⟨rfl,rfl⟩)
def fZ (kind:Int) (name exc:List UInt8) (kids:Int):Int:=
 if((kind==0)||(kind==1))=true then
  (if(decide (kids>0)||((kind==1)&& !(exc== [])))=true then 1
  else if(!tR name||(!(exc== [])&& !tR exc))=true then 2 else 0)
 else if((kind==2)||(kind==3))=true then
  (if(decide (kids<2)|| !(name== [])|| !(exc== []))=true then 1 else 0)
 else 1
def Ex.err (e:Ex):Int:=fZ e.kind e.name e.exc e.kids.length
def W2 (a:e.Ok) (g:Heap):zA prog 229 [.agg e.cells] g λr h'=>h'=g/\r= .int .i64 e.err:=by
 obtain⟨i,j,x,l,d⟩:=e;simp only[Ex.Ok] at a;obtain⟨m,o,o1,o2,_⟩:=a;have f:=uB m;have b:=bQ o1;have c:=bQ o2;have k:(Ex.mk i j x l d).err=fZ i j x l.length:=rfl;rw[k];unfold fZ;refine xO mix func229 Bc rfl rfl ?_;simp only[f229,gJ];simp only[Ex.cells,Ex.kind,Ex.name,Ex.exc,Ex.d]
 repeat' first|simp only[go_sem, *]|apply bc<;>intro n|(refine zA.mono (b _) ?_;rintro r h ⟨rfl,rfl⟩)|(refine zA.mono (c _) ?_;rintro r h ⟨rfl,rfl⟩)
def Ex.errAt (e:Ex) (i:Nat):Int:=(e.pre.getD i e).err
def p8 (e:Ex):Int:=
 if decide ((e.size:Int)>64)=true then 10
 else if decide ((e.depth:Int)>24)=true then 11
 else nY e.errAt e.size
def zAk:∀n:Nat,(∀e:Ex,e.size<=n->e.Ok->∀x∈e.pre,x.Ok)/\∀l:List Ex,zh l<=n->okL l->∀x∈jv l,x.Ok:=by
 intro n
 induction n with
 |zero=>
  refine⟨λe h=> ?_,λl h=> ?_⟩
  ·cases e;simp only[Ex.size] at h;omega
  ·cases l with
   |nil=>intro _ x f;simp[jv] at f
   |cons e l=>cases e;simp only[zh,Ex.size] at h;omega
 |succ n j=>
  have key:∀e:Ex,e.size<=n+1->e.Ok->∀x∈e.pre,x.Ok:=λe h g x f=>by
   obtain⟨a,b,c,l,d⟩:=e;simp only[Ex.size,Ex.pre] at h f;rcases List.mem_cons.1 f with rfl|f
   ·exact g
   ·simp only[Ex.Ok] at g;exact j.2 l ow g.2.2.2.2 x f
  refine⟨key,λl h=> ?_⟩
  induction l with
  |nil=>intro _ x f;simp[jv] at f
  |cons e l i=>
   intro g x f;simp only[zh,jv,okL] at h f g;rcases List.mem_append.1 f with f|f
   ·exact key e ow g.1 x f
   ·exact i ow g.2 x f
def Ex.pre_okAt (h:e.Ok) (i:Nat):(e.pre.getD i e).Ok:=by
 rw[List.getD_eq_getElem?_getD];cases a:e.pre[i]? with
 |none=>exact h
 |some x=>exact(zAk e.size).1 e (Nat.le_refl _) h x (List.mem_of_getElem? a)
def zAl (e:Ex) (c id:Nat) (L:LRec) (k:Nat) (S:Nat->Prop) (h:Heap):Prop:=
 (∀j,S j↔j=c\/j=id)/\c<id/\id<h.next/\h.at' c=some (.row [.int .i64 0])/\h.at' id=some (.loop L)/\∀j,j<k->e.errAt j=0
def zFO (e:Ex) (c id:Nat) (L:LRec) (S:Nat->Prop) (h:Heap):Prop:=
 (∀j,S j↔j=c\/j=id)/\c<id/\id<h.next/\∃v,v=nY e.errAt e.size/\h.at' c=some (.row [.int .i64 v])/\h.at' id=some (.loop { L with st:= .done,pending:=some .ret })
theorem W3 (A:e.Ok) (X:e.size<=1048576) (g:Heap):zA prog 165 [.agg e.cells] g λr h'=>h'=g/\r= .int .i64 (p8 e):=by
 refine xU kr λhh=> ?_;have a6:∀k:Int,below g.next (.int .i64 k):=λk=>trivial;have P:=zAj A X;have Z:=EM e.size (Nat.le_refl _) A X;have s:=λh=>W1 e h;obtain⟨G0,ak,r0,E0,n0⟩:∃G,g.new g.next (.row [.int .i64 0])=G/\G.at' g.next=some (.row [.int .i64 0])/\Ext g G/\G.next=g.next+1:=⟨_,rfl,zK _ _ _,(Ext.refl g).new (Nat.le_refl _) _,zF _ _⟩;have M:∀v:Int,zP prog 42 (.ptr g.next 0) (.int .i64 v) G0=some (G0.set g.next (.row [.int .i64 v])):=λv=>by rw[zS r0 mS (by simp) rfl rfl];rfl
 have ai:∀v:Int,Ext g (G0.set g.next (.row [.int .i64 v])):=λv=>E0.set (Nat.le_refl _) _;obtain⟨R,n⟩:∃R,p8 e=R:=⟨_,rfl⟩;rw[n];unfold p8 at n;refine xO mix func165 A9 rfl rfl ?_;simp only[f165,gJ];simp only[Ex.cells] at P Z s⊢;cases q1:decide ((e.size:Int)>64) with
 |true=>
  rw[ip q1] at n;subst n;clear s
  repeat' first|simp only[go_sem,zC, *]|apply bc<;>intro O|(refine zA.mono (P _) ?_;rintro r h ⟨rfl,rfl⟩)
 |false=>
 rw[iq (by rw[q1];exact Bool.false_ne_true)] at n;cases q2:decide ((e.depth:Int)>24) with
 |true=>
  rw[ip q2] at n;subst n;clear s
  repeat' first|simp only[go_sem,zC, *]|apply bc<;>intro O|(refine zA.mono (P _) ?_;rintro r h ⟨rfl,rfl⟩)|(refine zA.mono (Z _) ?_;rintro r h ⟨rfl,rfl⟩)
 |false=>
 rw[iq (by rw[q2];exact Bool.false_ne_true)] at n
 repeat' first|simp only[go_sem, *]|apply bc<;>intro O|(refine zA.mono (P _) ?_;rintro r h ⟨rfl,rfl⟩)|(refine zA.mono (Z _) ?_;rintro r h ⟨rfl,rfl⟩)
 rename Heap=>G1
 refine(s _).mono ?_;rintro r h2 ⟨rfl,rfl⟩
 repeat' first|simp only[go_sem, *]|apply bc<;>intro O
 obtain⟨G,hG,a0,m1,m2,mE⟩:∃G,G1.new (g.next+1) (.row [uw (g.next+1)])=G/\G.next=g.next+2/\G.at' g.next=some (.row [.int .i64 0])/\G.at' (g.next+1)=some (.row [uw (g.next+1)])/\Ext g G:=
  ⟨_,rfl,zo _ ow _,by rw[zG ow];exact r0,zK _ _ _,E0.new ow _⟩
 rw[hG,a0];clear hG s P Z M ai r0 E0 n0 ak;generalize w:LRec.mk _ _ _ _ _ _ _=L;have y:Yld prog (g.next+2) e.size (λi=>[.agg (e.pre.getD i e).cells]) (zAl e g.next (g.next+2) L) (zFO e g.next (g.next+2) L):=by
  refine⟨λk S h y i K=> ?_,λk S h h' y E V=> ?_,λS h y i K=> ?_,λS h h' y E V=> ?_,λi S h3 K hy=> ?_⟩
  ·obtain⟨a,t,I,l,m⟩:=y;rcases(a i).1 K with rfl|rfl<;>omega
  ·obtain⟨a,t,I,l,m,p⟩:=y;exact⟨a,t,by omega,by rw[V _ ((a _).2 (.inl rfl))];exact l,by rw[V _ ((a _).2 (.inr rfl))];exact m,p⟩
  ·obtain⟨a,t,I,l⟩:=y;rcases(a i).1 K with rfl|rfl<;>omega
  ·obtain⟨a,t,I,v,l,m,p⟩:=y;exact⟨a,t,by omega,v,l,by rw[V _ ((a _).2 (.inl rfl))];exact m,by rw[V _ ((a _).2 (.inr rfl))];exact p⟩
  ·obtain⟨a,t,I,l,m,p⟩:=hy;have N:=m;rw[<-w] at N;have W:=Ex.pre_okAt A i;have z:=λh=>W2 W h;have D:(e.pre.getD i e).err=e.errAt i:=rfl;rw[D] at z;generalize e.pre.getD i e=x at *
   have H:=MM x (Ex.flat W) h3 h3.next;simp only[Ex.cells] at z⊢;refine yo.round (g:=Yj) mix N rfl kr kr kr ?_;simp only[go_sem,H];obtain⟨C,U,z4,zL,zr,zn,zk⟩:∃C,h3.new h3.next (.row [.int .i64 x.kind, .str x.name, .str x.exc,x.d])=C/\C.at' g.next=some (.row [.int .i64 0])/\C.at' (g.next+2)=some (.loop L)/\C.at' h3.next=some (.row [.int .i64 x.kind, .str x.name, .str x.exc,x.d])/\C.next=h3.next+1/\∀j,j<h3.next->C.at' j=h3.at' j:=
    ⟨_,rfl,by rw[zG ow];exact l,by rw[zG ow];exact m,zK _ _ _,zF _ _,λj o=>by rw[zG ow]⟩
   rw[U];refine⟨by rw[w];exact zL,?_⟩;generalize hB:LRec.mk .busy _ _ _ _ _ _=B;have ag:({ B with st:= .ready,pending:=none } :LRec)=L:=by rw[<-hB,<-w]
   have ad:({ B with st:= .done,pending:=some .ret } :LRec)= { L with st:= .done,pending:=some .ret } :=by rw[<-hB,<-w]
   generalize c:Heap.set C (g.next+2) (.loop B)=h5;have a1:h5.at' g.next=some (.row [.int .i64 0]):=by rw[<-c,zE ow];exact z4
   have a2:h5.at' h3.next=some (.row [.int .i64 x.kind, .str x.name, .str x.exc,x.d]):=by rw[<-c,zE ow];exact zr
   have a3:h5.at' (g.next+2)=some (.loop B):=by rw[<-c];simp[Heap.set]
   have a4:h5.next=h3.next+1:=by rw[<-c,zT,zn]
   have a5:∀j,j<h3.next->j≠g.next+2->h5.at' j=h3.at' j:=λj o E=>by rw[<-c,zE E,zk j o]
   have M:∀v:Int,zP prog 42 (.ptr g.next 0) (.int .i64 v) h5=some (h5.set g.next (.row [.int .i64 v])):=λv=>by rw[zS a1 mS (by simp) rfl rfl];rfl
   clear U H w hB c z4 zL zr zk N D;cases hv:(e.errAt i==0) with
   |true=>
    have E:=wm (f:=e.errAt) p (by simpa using hv)
    repeat' first|simp only[go_sem, *]|apply bc<;>intro O|(refine zA.mono (z _) ?_;rintro r h ⟨rfl,rfl⟩)
    rename Heap=>h5
    refine qy a3 ⟨λj=>j=g.next\/j=g.next+2,λj o=> .inl (by simpa using o),⟨by simp only[zT];omega,λj o hS=> ?_⟩, .inl ⟨rfl,λj=>Iff.rfl,t,by simp only[zT];omega,?_,?_,E⟩⟩
    ·have Y:j≠g.next+2:=λe=>hS (by first|exact(a j).2 (.inr e)|exact .inr e)
     rw[zE Y,a5 j o Y]
    ·rw[zE ow];exact a1
    ·rw[zC,ag]
   |false=>
    have E:nY e.errAt e.size=e.errAt i:=pJ K p (by simpa using hv)
    repeat' first|simp only[go_sem, *]|apply bc<;>intro O|(refine zA.mono (z _) ?_;rintro r h ⟨rfl,rfl⟩)
    rename Heap=>h5
    refine l7 (L:=B) (by rw[zE ow];exact a3) ⟨λj=>j=g.next\/j=g.next+2,λj o=> .inl (by simpa using o),⟨by simp only[zT];omega,λj o hS=> ?_⟩, .inr ⟨rfl,λj=>Iff.rfl,t,by simp only[zT];omega,_,E.symm,?_,?_⟩⟩
    ·have n1:j≠g.next:=λe=>hS (by first|exact(a j).2 (.inl e)|exact .inl e)
     have Y:j≠g.next+2:=λe=>hS (by first|exact(a j).2 (.inr e)|exact .inr e)
     rw[zE Y,zE n1,a5 j o Y]
    ·rw[zE ow,zC]
    ·rw[zC,ad]
 have J:zAl e g.next (g.next+2) L 0 (λj=>j=g.next\/j=g.next+2) (G.new (g.next+2) (.loop L)):=
  ⟨λj=>Iff.rfl,by omega,by rw[zo _ ow];omega,by rw[zG ow];exact m1,zK _ _ _,λj o=>absurd o (Nat.not_lt_zero _)⟩
 have b:=ZP y A (λj x hx=>by
  have:e.pre.getD j e=x:=by rw[List.getD_eq_getElem?_getD,hx];rfl
  rw[this]) J (v:=g.next+1) (by rw[zo _ ow];omega) ow (by rw[zG ow];exact m2)
 refine b.mono ?_;rintro r h ⟨S',s1,s2,s3⟩;have u:∀ (_:g.next+2<h.next) (_:∀j,S' j↔j=g.next\/j=g.next+2),Ext g (h.del (g.next+2)):=λE _=>by
  have a8:(G.new (g.next+2) (.loop L)).next=g.next+3:=zo _ ow _;refine Ext.del ⟨by omega,λi K=> ?_⟩ ow;rw[s2.2 i ow ow,zG ow,mE.2 i K]
 rcases s3 with⟨a,t,I,l,m,p⟩ | ⟨a,t,I,v,l,m,p⟩
 ·have T:L.st≠ .busy:=by rw[<-w];intro q;cases q
  have Q:L.pending=none:=by rw[<-w]
  refine⟨L,m,T,?_⟩;rw[Q,ur];have F:(h.del (g.next+2)).at' g.next=some (.row [.int .i64 0]):=by rw[yI ow];exact l
  have hE:=u I a;have M:zP prog 42 (.ptr g.next 0) (.int .i64 0) (h.del (g.next+2))=some ((h.del (g.next+2)).set g.next (.row [.int .i64 0])):=by rw[zS F mS (by simp) rfl rfl];rfl
  have a7:=hE.set (id:=g.next) (Nat.le_refl _) (.row [.int .i64 0]);rw[wH p] at n;subst n;clear b y J s1 s2 w T Q a l m p u
  repeat' first|simp only[go_sem,zC, *]|apply bc<;>intro O
 ·refine⟨_,p,?_,?_⟩
  ·intro q;cases q
  simp only[mc];have F:(h.del (g.next+2)).at' g.next=some (.row [.int .i64 v]):=by rw[yI ow];exact m
  have hE:=u I a;rw[<-l] at n;subst n;clear b y J s1 s2 w a l m p u;exact au
def MO (c:Cat) (x:Ex):Int:=if(!(x.name== [])&& !cD c x.name x.exc)=true then 7 else 0
def Ex.unk (c:Cat) (e:Ex) (i:Nat):Int:=MO c (e.pre.getD i e)
def uy (c:Cat) (e:Ex):Int:=
 if(!(tK c==0))=true then 1
 else if(!(p8 e==0))=true then p8 e
 else nY (Ex.unk c e) e.size
def zAm (f:Nat->Int) (N c id:Nat) (L:LRec) (k:Nat) (S:Nat->Prop) (h:Heap):Prop:=
 (∀j,S j↔j=c\/j=id)/\c<id/\id<h.next/\h.at' c=some (.row [.int .i64 0])/\h.at' id=some (.loop L)/\∀j,j<k->f j=0
def zFP (f:Nat->Int) (N c id:Nat) (L:LRec) (S:Nat->Prop) (h:Heap):Prop:=
 (∀j,S j↔j=c\/j=id)/\c<id/\id<h.next/\∃v,v=nY f N/\h.at' c=some (.row [.int .i64 v])/\h.at' id=some (.loop { L with st:= .done,pending:=some .ret })
theorem fe (w:yt c d) (hs:c.Sm) (T:e.Ok) (a9:e.size<=1048576) (g:Heap):zA prog 90 [d, .agg e.cells] g λr h'=>h'=g/\r= .int .i64 (uy c e):=by
 refine xU kr λhh=> ?_;have bb:∀k:Int,below g.next (.int .i64 k):=λk=>trivial;have c1:=oX w hs;have c2:=W3 T a9;have I:=λba ai h=>EJ w hs ba ai h;obtain⟨ca,cb,ce,cp,rfl,_,_,_,_⟩:=w;have bo:∀u v:List UInt8,zt prog 130 [(0, .str u),(1, .str v)]=some (.agg [.str u, .str v]):=λu v=>by simp[zt,uo,qt,qB,D.notTuple,D.cells,yU]
 have A:=λh=>W1 e h;obtain⟨G0,a6,r0,E0,n0⟩:∃G,g.new g.next (.row [.int .i64 0])=G/\G.at' g.next=some (.row [.int .i64 0])/\Ext g G/\G.next=g.next+1:=⟨_,rfl,zK _ _ _,(Ext.refl g).new (Nat.le_refl _) _,zF _ _⟩;have U:∀v:Int,zP prog 42 (.ptr g.next 0) (.int .i64 v) G0=some (G0.set g.next (.row [.int .i64 v])):=λv=>by rw[zS r0 mS (by simp) rfl rfl];rfl
 have a0:∀v:Int,Ext g (G0.set g.next (.row [.int .i64 v])):=λv=>E0.set (Nat.le_refl _) _;obtain⟨R,t⟩:∃R,uy c e=R:=⟨_,rfl⟩;rw[t];unfold uy at t;refine xO mix func90 zGi rfl rfl ?_;simp only[f90,gJ];simp only[Ex.cells] at c2 A⊢;cases q1:(tK c==0) with
 |false=>
  rw[ip (by rw[q1];rfl)] at t;subst t;clear A I
  repeat' first|simp only[go_sem,zC, *]|apply bc<;>intro w|(refine zA.mono (c1 _) ?_;rintro r h ⟨rfl,rfl⟩)
 |true=>
 rw[iq (by rw[q1];decide)] at t;cases q2:(p8 e==0) with
 |false=>
  rw[ip (by rw[q2];rfl)] at t;subst t;clear A I
  repeat' first|simp only[go_sem,zC, *]|apply bc<;>intro w|(refine zA.mono (c1 _) ?_;rintro r h ⟨rfl,rfl⟩)|(refine zA.mono (c2 _) ?_;rintro r h ⟨rfl,rfl⟩)
 |true=>
 rw[iq (by rw[q2];decide)] at t
 repeat' first|simp only[go_sem, *]|apply bc<;>intro w|(refine zA.mono (c1 _) ?_;rintro r h ⟨rfl,rfl⟩)|(refine zA.mono (c2 _) ?_;rintro r h ⟨rfl,rfl⟩)
 rename Heap=>G1
 refine(A _).mono ?_;rintro r h2 ⟨rfl,rfl⟩
 repeat' first|simp only[go_sem, *]|apply bc<;>intro w
 obtain⟨G,hG,a7,m1,m2,mE⟩:∃G,G1.new (g.next+1) (.row [uw (g.next+1)])=G/\G.next=g.next+2/\G.at' g.next=some (.row [.int .i64 0])/\G.at' (g.next+1)=some (.row [uw (g.next+1)])/\Ext g G:=
  ⟨_,rfl,zo _ ow _,by rw[zG ow];exact r0,zK _ _ _,E0.new ow _⟩
 rw[hG,a7];clear hG A c1 c2 U a0 r0 E0 n0 a6;generalize H:LRec.mk _ _ _ _ _ _ _=L;have y:Yld prog (g.next+2) e.size (λi=>[.agg (e.pre.getD i e).cells]) (zAm (Ex.unk c e) e.size g.next (g.next+2) L) (zFP (Ex.unk c e) e.size g.next (g.next+2) L):=by
  refine⟨λk S h y i Q=> ?_,λk S h h' y E hk=> ?_,λS h y i Q=> ?_,λS h h' y E hk=> ?_,λi S h3 Q hy=> ?_⟩
  ·obtain⟨b,C,O,o,p⟩:=y;rcases(b i).1 Q with rfl|rfl<;>omega
  ·obtain⟨b,C,O,o,p,s⟩:=y;exact⟨b,C,by omega,by rw[hk _ ((b _).2 (.inl rfl))];exact o,by rw[hk _ ((b _).2 (.inr rfl))];exact p,s⟩
  ·obtain⟨b,C,O,o⟩:=y;rcases(b i).1 Q with rfl|rfl<;>omega
  ·obtain⟨b,C,O,v,o,p,s⟩:=y;exact⟨b,C,by omega,v,o,by rw[hk _ ((b _).2 (.inl rfl))];exact p,by rw[hk _ ((b _).2 (.inr rfl))];exact s⟩
  ·obtain⟨b,C,O,o,p,s⟩:=hy;have V:=p;rw[<-H] at V;have a8:=Ex.pre_okAt T i;have a:MO c (e.pre.getD i e)=Ex.unk c e i:=rfl;unfold MO at a;generalize e.pre.getD i e=x at *
   have M:=MM x (Ex.flat a8) h3 h3.next;simp only[Ex.cells];refine yo.round (g:=P4) mix V rfl kr kr kr ?_;simp only[go_sem,M];obtain⟨J,ag,z4,zL,zr,zn,zk⟩:∃J,h3.new h3.next (.row [.int .i64 x.kind, .str x.name, .str x.exc,x.d])=J/\J.at' g.next=some (.row [.int .i64 0])/\J.at' (g.next+2)=some (.loop L)/\J.at' h3.next=some (.row [.int .i64 x.kind, .str x.name, .str x.exc,x.d])/\J.next=h3.next+1/\∀j,j<h3.next->J.at' j=h3.at' j:=
    ⟨_,rfl,by rw[zG ow];exact o,by rw[zG ow];exact p,zK _ _ _,zF _ _,λj m=>by rw[zG ow]⟩
   rw[ag];refine⟨by rw[H];exact zL,?_⟩;generalize hB:LRec.mk .busy _ _ _ _ _ _=B;have Y:({ B with st:= .ready,pending:=none } :LRec)=L:=by rw[<-hB,<-H]
   have ak:({ B with st:= .done,pending:=some .ret } :LRec)= { L with st:= .done,pending:=some .ret } :=by rw[<-hB,<-H]
   generalize n:Heap.set J (g.next+2) (.loop B)=h5;have a1:h5.at' g.next=some (.row [.int .i64 0]):=by rw[<-n,zE ow];exact z4
   have a2:h5.at' h3.next=some (.row [.int .i64 x.kind, .str x.name, .str x.exc,x.d]):=by rw[<-n,zE ow];exact zr
   have a3:h5.at' (g.next+2)=some (.loop B):=by rw[<-n];simp[Heap.set]
   have a4:h5.next=h3.next+1:=by rw[<-n,zT,zn]
   have a5:∀j,j<h3.next->j≠g.next+2->h5.at' j=h3.at' j:=λj m E=>by rw[<-n,zE E,zk j m]
   have U:∀v:Int,zP prog 42 (.ptr g.next 0) (.int .i64 v) h5=some (h5.set g.next (.row [.int .i64 v])):=λv=>by rw[zS a1 mS (by simp) rfl rfl];rfl
   clear ag M H hB n z4 zL zr zk V;have z:=I x.name x.exc;clear I;cases b1:(x.name== []) with
   |true=>
    have E:=wm (f:=Ex.unk c e) s (by rw[<-a,iq (by rw[b1];exact Bool.false_ne_true)]);clear a z
    repeat' first|simp only[go_sem, *]|apply bc<;>intro w
    refine qy a3 ⟨λj=>j=g.next\/j=g.next+2,λj m=> .inl (by simpa using m),⟨by simp only[zT];omega,λj m X=> ?_⟩, .inl ⟨rfl,λj=>Iff.rfl,C,by simp only[zT];omega,?_,?_,E⟩⟩
    ·have N:j≠g.next+2:=λe=>X (by first|exact(b j).2 (.inr e)|exact .inr e)
     rw[zE N,a5 j m N]
    ·rw[zE ow];exact a1
    ·rw[zC,Y]
   |false=>
   cases W:cD c x.name x.exc with
   |true=>
    have E:=wm (f:=Ex.unk c e) s (by rw[<-a,iq (by rw[b1,W];decide)]);rw[W] at z;clear a W
    repeat' first|simp only[go_sem, *]|apply bc<;>intro w|(refine zA.mono (z _) ?_;rintro r h ⟨rfl,rfl⟩)
    rename Heap=>h5
    refine qy a3 ⟨λj=>j=g.next\/j=g.next+2,λj m=> .inl (by simpa using m),⟨by simp only[zT];omega,λj m X=> ?_⟩, .inl ⟨rfl,λj=>Iff.rfl,C,by simp only[zT];omega,?_,?_,E⟩⟩
    ·have N:j≠g.next+2:=λe=>X (by first|exact(b j).2 (.inr e)|exact .inr e)
     rw[zE N,a5 j m N]
    ·rw[zE ow];exact a1
    ·rw[zC,Y]
   |false=>
    have hw:Ex.unk c e i=7:=by rw[<-a,ip (by rw[b1,W];rfl)]
    have E:nY (Ex.unk c e) e.size=7:=by rw[pJ Q s (by rw[hw];decide),hw]
    rw[W] at z;clear a W hw
    repeat' first|simp only[go_sem, *]|apply bc<;>intro w|(refine zA.mono (z _) ?_;rintro r h ⟨rfl,rfl⟩)
    rename Heap=>h5
    refine l7 (L:=B) (by rw[zE ow];exact a3) ⟨λj=>j=g.next\/j=g.next+2,λj m=> .inl (by simpa using m),⟨by simp only[zT];omega,λj m X=> ?_⟩, .inr ⟨rfl,λj=>Iff.rfl,C,by simp only[zT];omega,_,E.symm,?_,?_⟩⟩
    ·have n1:j≠g.next:=λe=>X (by first|exact(b j).2 (.inl e)|exact .inl e)
     have N:j≠g.next+2:=λe=>X (by first|exact(b j).2 (.inr e)|exact .inr e)
     rw[zE N,zE n1,a5 j m N]
    ·rw[zE ow,zC]
    ·rw[zC,ak]
 have P:zAm (Ex.unk c e) e.size g.next (g.next+2) L 0 (λj=>j=g.next\/j=g.next+2) (G.new (g.next+2) (.loop L)):=
  ⟨λj=>Iff.rfl,by omega,by rw[zo _ ow];omega,by rw[zG ow];exact m1,zK _ _ _,λj m=>absurd m (Nat.not_lt_zero _)⟩
 have l:=ZP y T (λj x hx=>by
  have:e.pre.getD j e=x:=by rw[List.getD_eq_getElem?_getD,hx];rfl
  rw[this]) P (v:=g.next+1) (by rw[zo _ ow];omega) ow (by rw[zG ow];exact m2)
 refine l.mono ?_;rintro r h ⟨S',s1,s2,s3⟩;have F:∀ (_:g.next+2<h.next) (_:∀j,S' j↔j=g.next\/j=g.next+2),Ext g (h.del (g.next+2)):=λE _=>by
  have bs:(G.new (g.next+2) (.loop L)).next=g.next+3:=zo _ ow _;refine Ext.del ⟨by omega,λi Q=> ?_⟩ ow;rw[s2.2 i ow ow,zG ow,mE.2 i Q]
 rcases s3 with⟨b,C,O,o,p,s⟩ | ⟨b,C,O,v,o,p,s⟩
 ·have ad:L.st≠ .busy:=by rw[<-H];intro q;cases q
  have Z:L.pending=none:=by rw[<-H]
  refine⟨L,p,ad,?_⟩;rw[Z,ur];have K:(h.del (g.next+2)).at' g.next=some (.row [.int .i64 0]):=by rw[yI ow];exact o
  have hE:=F O b;have U:zP prog 42 (.ptr g.next 0) (.int .i64 0) (h.del (g.next+2))=some ((h.del (g.next+2)).set g.next (.row [.int .i64 0])):=by rw[zS K mS (by simp) rfl rfl];rfl
  have bk:=hE.set (id:=g.next) (Nat.le_refl _) (.row [.int .i64 0]);rw[wH s] at t;subst t;clear l y P s1 s2 H ad Z b o p s F
  repeat' first|simp only[go_sem,zC, *]|apply bc<;>intro w
 ·refine⟨_,s,?_,?_⟩
  ·intro q;cases q
  simp only[mc];have K:(h.del (g.next+2)).at' g.next=some (.row [.int .i64 v]):=by rw[yI ow];exact p
  have hE:=F O b;rw[<-o] at t;subst t;clear l y P s1 s2 H b o p s F;exact au
structure Fac where
 kind:Int
 comp:List UInt8
 out:List UInt8
 rel:Int
 way:Int
 duty:Int
 chg:Bool
 e:Ex
 list:List (List UInt8)
 d:D
def Fac.cells (f:Fac):List D:=[.int .i64 f.kind, .str f.comp, .str f.out, .int .i64 f.rel, .int .i64 f.way, .int .i64 f.duty, .bool f.chg, .int .i64 f.e.kind, .str f.e.name, .str f.e.exc,f.e.d,f.d]
structure Fac.Ok (f:Fac):Prop where
 e:f.e.Ok
 es:f.e.size<=1048576
 list:zZ 1 (yR f.list) f.d
 ll:f.list.length<=1048576
 comp:f.comp.length<=1048576
 out:f.out.length<=1048576
structure Use where
 comp:Bool
 out:Bool
 rel:Bool
 chg:Bool
 e:Bool
 way:Bool
 list:Bool
 duty:Bool
def Use.cells (u:Use):List D:=[.bool u.comp, .bool u.out, .bool u.rel, .bool u.chg, .bool u.e, .bool u.way, .bool u.list, .bool u.duty]
def mo (k:Int):Use×Bool:=
 if(k==0)=true then(⟨true,true,true,true,false,false,false,false⟩,true)
 else if(k==1)=true then(⟨true,false,false,false,true,false,false,false⟩,true)
 else if(k==2)=true then(⟨false,true,false,false,false,true,false,false⟩,true)
 else if(k==3)=true then(⟨false,true,false,false,false,false,true,false⟩,true)
 else if(k==4)=true then(⟨true,false,false,false,false,false,false,true⟩,true)
 else(⟨false,false,false,false,false,false,false,false⟩,false)
def zAn (k:Int) (g:Heap):zA prog 161 [.int .i64 k] g λr h'=>h'=g/\r= .tuple [.agg (mo k).1.cells, .bool (mo k).2]:=by
 refine xU kr λh=> ?_;have n:zt prog 238 [(0, .bool true),(1, .bool true),(2, .bool true),(3, .bool true)]=some (.agg [.bool true, .bool true, .bool true, .bool true, .bool false, .bool false, .bool false, .bool false]):=by simp[zt,uq,rW,qB,yU,D.notTuple,D.cells]
 have p:zt prog 238 [(0, .bool true),(4, .bool true)]=some (.agg [.bool true, .bool false, .bool false, .bool false, .bool true, .bool false, .bool false, .bool false]):=by simp[zt,uq,rW,qB,yU,D.notTuple,D.cells]
 have q:zt prog 238 [(1, .bool true),(5, .bool true)]=some (.agg [.bool false, .bool true, .bool false, .bool false, .bool false, .bool true, .bool false, .bool false]):=by simp[zt,uq,rW,qB,yU,D.notTuple,D.cells]
 have s:zt prog 238 [(1, .bool true),(6, .bool true)]=some (.agg [.bool false, .bool true, .bool false, .bool false, .bool false, .bool false, .bool true, .bool false]):=by simp[zt,uq,rW,qB,yU,D.notTuple,D.cells]
 have t:zt prog 238 [(0, .bool true),(7, .bool true)]=some (.agg [.bool true, .bool false, .bool false, .bool false, .bool false, .bool false, .bool false, .bool true]):=by simp[zt,uq,rW,qB,yU,D.notTuple,D.cells]
 have u:zt prog 238 []=some (.agg [.bool false, .bool false, .bool false, .bool false, .bool false, .bool false, .bool false, .bool false]):=by simp[zt,uq,rW,qB,yU,D.notTuple,D.cells]
 have l:∀a b c e f i j k:Bool,zP prog 238 (.ptr g.next 0) (.agg [.bool a, .bool b, .bool c, .bool e, .bool f, .bool i, .bool j, .bool k]) (g.new g.next (.row [.bool false, .bool false, .bool false, .bool false, .bool false, .bool false, .bool false, .bool false]))=some (g.new g.next (.row [.bool a, .bool b, .bool c, .bool e, .bool f, .bool i, .bool j, .bool k])):=λa b c e f i j k=>zg Q6 ow rfl rfl rfl;have v:∀o,Ext g (g.new g.next o):=λo=>(Ext.refl g).new (Nat.le_refl _) o;have m:∀a b c e f i j k:D,zM true 8 [a,b,c,e,f,i,j,k] 0=some (.agg [a,b,c,e,f,i,j,k]):=λa b c e f i j k=>zB rfl ow
 have d:∀a b c e f i j k x:Bool,below g.next (.tuple [.agg [.bool a, .bool b, .bool c, .bool e, .bool f, .bool i, .bool j, .bool k], .bool x]):=λa b c e f i j k x=>by simp[below,zf]
 unfold mo Use.cells;refine xO mix func161 Bq rfl rfl ?_;simp only[f161,gJ]
 repeat' first|simp only[go_sem,zK, *]|apply bc<;>intro w
def EP (x:Ex) (g:Heap) (a:x.Ok):zA prog 223 [.agg x.cells] g λr h'=>h'=g/\r= .bool ((x.kind==0)&&(x.name== [])&&(x.exc== [])&&((x.kids.length:Int)==0)):=by
 obtain⟨c,e,f,l,d⟩:=x;simp only[Ex.Ok] at a;have b:=uB a.1;refine xO mix func223 Bb rfl rfl ?_;simp only[f223,gJ];simp only[Ex.cells,Ex.kind,Ex.name,Ex.exc,Ex.d,Ex.kids];exact au
def GA (x:Ex):Bool:=(x.kind==0)&&(x.name== [])&&(x.exc== [])&&((x.kids.length:Int)==0)
def mq (f:Fac) (u:Use):Bool:=
 (!u.comp&& !(f.comp== []))||(!u.out&& !(f.out== []))||(!u.rel&& !(f.rel==0))||(!u.chg&&f.chg)||(!u.e&& !GA f.e)||(!u.way&& !(f.way==0))||(!u.list&&decide ((f.list.length:Int)>0))||(!u.duty&& !(f.duty==0))
def nZ (a b c d e f g h i j k l:D):zM true 12 [a,b,c,d,e,f,g,h,i,j,k,l] 0=some (.agg [a,b,c,d,e,f,g,h,i,j,k,l]):=zB rfl ow
def pL (a b c d e f g h i j k l:D):zM true 4 [a,b,c,d,e,f,g,h,i,j,k,l] 7=some (.agg [h,i,j,k]):=by simp[zM]
def EQ {f:Fac} (b:f.Ok) {k:Int} (d:(mo k).2=true) (g:Heap):zA prog 162 [.agg f.cells, .agg (mo k).1.cells] g λr h'=>h'=g/\r= .bool (mq f (mo k).1):=by
 have a:=λh=>EP f.e h b.e;have i:((f.e.kind==0)&&(f.e.name== [])&&(f.e.exc== [])&&((f.e.kids.length:Int)==0))=GA f.e:=rfl;rw[i] at a;have m:=yK b.list;have j:=nZ;have l:=pL;simp only[Ex.cells] at a;refine xO mix func162 AE rfl rfl ?_;simp only[f162,gJ];unfold mo at d⊢;cases k0:(k==0) with
 |true=>
  simp only[if_true,Use.cells,Fac.cells,mq]
  repeat' first|simp only[go_sem, *]|apply bc<;>intro c|(refine zA.mono (a _) ?_;rintro r h ⟨rfl,rfl⟩)
 |false=>
 cases k1:(k==1) with
 |true=>
  simp only[Bool.false_eq_true,if_true,if_false,Use.cells,Fac.cells,mq]
  repeat' first|simp only[go_sem, *]|apply bc<;>intro c|(refine zA.mono (a _) ?_;rintro r h ⟨rfl,rfl⟩)
 |false=>
 cases k2:(k==2) with
 |true=>
  simp only[Bool.false_eq_true,if_true,if_false,Use.cells,Fac.cells,mq]
  repeat' first|simp only[go_sem, *]|apply bc<;>intro c|(refine zA.mono (a _) ?_;rintro r h ⟨rfl,rfl⟩)
 |false=>
 cases k3:(k==3) with
 |true=>
  simp only[Bool.false_eq_true,if_true,if_false,Use.cells,Fac.cells,mq]
  repeat' first|simp only[go_sem, *]|apply bc<;>intro c|(refine zA.mono (a _) ?_;rintro r h ⟨rfl,rfl⟩)
 |false=>
 cases k4:(k==4) with
 |true=>
  simp only[Bool.false_eq_true,if_true,if_false,Use.cells,Fac.cells,mq]
  repeat' first|simp only[go_sem, *]|apply bc<;>intro c|(refine zA.mono (a _) ?_;rintro r h ⟨rfl,rfl⟩)
 |false=>
 rw[k0,k1,k2,k3,k4] at d;cases d
def TI (c:Cat) (f:Fac) (u:Use):Int:=
 if((u.comp&& !(Ww f.comp==0))||(u.out&& !(Ww f.out==0)))=true then 2
 else if(decide (f.rel<0)||decide (f.rel>2)||decide (f.way<0)||decide (f.way>2)||decide (f.duty<0)||decide (f.duty>3))=true then 3
 else if u.e=true then uy c f.e
 else if(f.list.any λs=> !(rH c s).isSome)=true then 7
 else if(!fV f.list)=true then 5 else 0
def p9 (c:Cat) (f:Fac):Int:=
 if(!(mo f.kind).2||mq f (mo f.kind).1)=true then 1 else TI c f (mo f.kind).1
def zAo (u:Use) (h:Heap) (id:Nat):zP prog 238 (.ptr id 0) (.agg u.cells) (h.new id (.row [.bool false, .bool false, .bool false, .bool false, .bool false, .bool false, .bool false, .bool false]))=some (h.new id (.row u.cells)):=zg Q6 ow rfl rfl rfl
theorem W4 (v:yt c d) (hs:c.Sm) {f:Fac} (l:f.Ok) (g:Heap):zA prog 89 [d, .agg f.cells] g λr h'=>h'=g/\r= .int .i64 (p9 c f):=by
 refine xU kr λhh=> ?_;have ai:∀k:Int,below g.next (.int .i64 k):=λk=>trivial;have J:=zAn f.kind;have Q:=bM l.comp;have S:=bM l.out;have H:=λh=>fe v hs l.e l.es h;have z:=λk h=>MG v hs k h;have a7:=yK l.list;have a5:=nZ;have a6:=pL;obtain⟨ca,cb,ce,cp,rfl,_,_,_,_⟩:=v;have a8:∀a b c e f i j k:D,zM true 8 [a,b,c,e,f,i,j,k] 0=some (.agg [a,b,c,e,f,i,j,k]):=λa b c e f i j k=>zB rfl ow;have m:∀hk:(mo f.kind).2=true,∀h,zA prog 162 [.agg f.cells, .agg (mo f.kind).1.cells] h λr h'=>h'=h/\r= .bool (mq f (mo f.kind).1):=λhk h=>EQ l hk h;obtain⟨R,w⟩:∃R,p9 c f=R:=⟨_,rfl⟩;rw[w];unfold p9 at w
 generalize hU:mo f.kind=U at *
 obtain⟨u,ub⟩:=U;simp only at w m J;have I:=zAo u g g.next;obtain⟨G,hG,r0,X,n0⟩:∃G,g.new g.next (.row u.cells)=G/\G.at' g.next=some (.row u.cells)/\Ext g G/\G.next=g.next+1:=⟨_,rfl,zK _ _ _,(Ext.refl g).new (Nat.le_refl _) _,zF _ _⟩;rw[hG] at I;obtain⟨u1,u2,u3,u4,u5,u6,u7,u8⟩:=u;simp only[Use.cells] at I r0 J m;simp only[Ex.cells] at H;refine xO mix func89 zGd rfl rfl ?_;simp only[f89,gJ];simp only[Fac.cells] at m⊢;cases ub with
 |false=>
  rw[ip (by simp)] at w;subst w;clear m hU
  repeat' first|simp only[go_sem, *]|apply bc<;>intro v|(refine zA.mono (J _) ?_;rintro r h ⟨hq,rfl⟩)
 |true=>
 have m:=m rfl;cases V:mq f ⟨u1,u2,u3,u4,u5,u6,u7,u8⟩ with
 |true=>
  rw[ip (by rw[V];rfl)] at w;subst w;clear hU;rw[V] at m
  repeat' first|simp only[go_sem, *]|apply bc<;>intro v|(refine zA.mono (J _) ?_;rintro r h ⟨hq,rfl⟩)|(refine zA.mono (m _) ?_;rintro r h ⟨rfl,rfl⟩)
 |false=>
 rw[iq (by rw[V];decide)] at w;rw[V] at m;clear hU V;unfold TI at w;obtain⟨L,M⟩:∃L,(f.list.any λs=> !(rH c s).isSome)=L:=⟨_,rfl⟩;obtain⟨W,N⟩:∃W,fV f.list=W:=⟨_,rfl⟩;simp only[M,N] at w;subst w;clear hG
 repeat' first|simp only[go_sem, *]|apply bc<;>intro v|(refine zA.mono (J _) ?_;rintro r h ⟨hq,rfl⟩)|(refine zA.mono (m _) ?_;rintro r h ⟨rfl,rfl⟩)|(refine zA.mono (Q _) ?_;rintro r h ⟨rfl,rfl⟩)|(refine zA.mono (S _) ?_;rintro r h ⟨rfl,rfl⟩)|(refine zA.mono (H _) ?_;rintro r h ⟨rfl,rfl⟩)
 all_goals
  rename Heap=>G
  clear m H Q S J I;refine zD (λk fr h=>fr 2= .iptr [ca,cb,ce,cp] 0/\fr 3= .iptr [.int .i64 f.kind, .str f.comp, .str f.out, .int .i64 f.rel, .int .i64 f.way, .int .i64 f.duty, .bool f.chg, .int .i64 f.e.kind, .str f.e.name, .str f.e.exc,f.e.d,f.d] 0/\fr 78=f.d/\fr 79= .int .i64 (f.list.length:Int)/\fr 80= .int .i64 (k:Int)/\Ext g h/\∀j (n:j<f.list.length),j<k->(!(rH c f.list[j]).isSome)=false) f.list.length (by have:=l.ll;omega) ?_ ?_ ?_
  ·simp only[go_sem,true_and,and_true,Int.ofNat_zero];exact⟨X,λj n h0=>absurd h0 (Nat.not_lt_zero _)⟩
  ·clear X r0 n0;rintro k fr h o Y ew ⟨Z,K,B,C,E,A,n⟩;have a1:=wN l.list o;have y:=z f.list[k];have t:=λx:Lic=>pV x h h.next;cases hf:rH c f.list[k] with
   |none=>
    have O:p7 c f.list[k]= .tuple [.agg lN, .bool false]:=by unfold p7;rw[hf]
    have F:L=true:=by rw[<-M];exact fS (p:=λs=> !(rH c s).isSome) o (by simp only[hf];rfl)
    have ag:=t ⟨[],[],0,[]⟩;have ad:=A.new A.1 (.row lN);rw[O] at y;subst F;clear n z O M hf t
    repeat' first|simp only[go_sem, *]|apply bc<;>intro v|(refine zA.mono (y _) ?_;rintro r h ⟨rfl,rfl⟩)
   |some x=>
    have O:p7 c f.list[k]= .tuple [.agg [.str x.name, .str x.fam, .int .i64 x.ver, .str x.text], .bool true]:=by unfold p7;rw[hf]
    have hn:=qM (p:=λs=> !(rH c s).isSome) o n (by simp only[hf];rfl);have ag:=t x;have ad:=A.new A.1 (.row [.str x.name, .str x.fam, .int .i64 x.ver, .str x.text]);rw[O] at y;clear n z O hf t
    repeat' first|simp only[go_sem, *]|apply bc<;>intro v|(refine zA.mono (y _) ?_;rintro r h ⟨rfl,rfl⟩)
    exact hn
  ·clear X r0 n0 z;rintro fr h Y ⟨Z,K,B,C,E,A,n⟩;have F:L=false:=by rw[<-M];exact nF λj P _=>n j P P
   subst F;clear n M;simp only[go_sem,Z,K,B,C,E,Y];refine yF (λi fr k=>fr 3= .iptr [.int .i64 f.kind, .str f.comp, .str f.out, .int .i64 f.rel, .int .i64 f.way, .int .i64 f.duty, .bool f.chg, .int .i64 f.e.kind, .str f.e.name, .str f.e.exc,f.e.d,f.d] 0/\fr 11= .int .i64 ((i+1:Nat):Int)/\Ext g k/\∀j,j<i->j<f.list.length-1->leB (f.list.getD (j+1) []) (f.list.getD j [])=false) f.list.length ?_ ?_
   ·simp only[go_sem,true_and,and_true,Int.ofNat_zero];exact⟨K,rfl,A,λj n=>absurd n (Nat.not_lt_zero _)⟩
   clear A Z K B C E Y;rintro i fr h hi ⟨K,a4,A,n⟩;have ak:=l.ll;by_cases o:i+1<f.list.length
   ·have e1:decide (((i+1:Nat):Int)<(f.list.length:Int))=true:=decide_eq_true ow;have ew:IntKind.i64.wrap (((i+1:Nat):Int)+1)=((i+2:Nat):Int):=zw (by unfold lim;omega);have a0:IntKind.i64.wrap (((i+1:Nat):Int)-1)=((i:Nat):Int):=by rw[zd ow ow];omega
    have a1:=wN l.list o;have a2:=wN l.list (show i<f.list.length by omega);have a3:=mg f.list[i+1] f.list[i];cases hb:leB f.list[i+1] f.list[i] with
    |true=>
     have T:fV f.list=false:=decide_eq_false λq=>by
      have:=q i ow;rw[Yw o,Yw ow,hb] at this;cases this
     have hr:W=false:=by rw[<-N];exact T
     clear T;subst hr;clear n N
     repeat' first|simp only[go_sem, *]|apply bc<;>intro v
     refine zU kr ?_
     repeat' first|simp only[go_sem, *]|apply bc<;>intro v
    |false=>
     have hn:∀j,j<i+1->j<f.list.length-1->leB (f.list.getD (j+1) []) (f.list.getD j [])=false:=λj h1 h2=>by
      rcases Nat.lt_succ_iff_lt_or_eq.1 h1 with q|rfl
      ·exact n j q h2
      ·rw[Yw o,Yw ow,hb]
     clear n
     repeat' first|simp only[go_sem, *]|apply bc<;>intro v
     refine zU kr ?_
     repeat' first|simp only[go_sem, *]|apply bc<;>intro v
     exact⟨by omega,hn⟩
   ·have e1:decide (((i+1:Nat):Int)<(f.list.length:Int))=false:=decide_eq_false ow;have hr:W=true:=by rw[<-N];exact decide_eq_true λj h=>n j ow h
    subst hr;clear n N;exact au
def nb (l:List Fac):List (List D):=l.map Fac.cells
def W5 (l:List Fac):(nb l).length=l.length:=List.length_map ..
def Ja {l:List Fac} (h:i<l.length):(nb l)[i]? =some l[i].cells:=by simp[nb,h]
def uR {l:List Fac} (a:zZ 12 (nb l) d) (h:Heap):tU prog 29 d h=some (.int .i64 l.length):=by rw[yc a underlying29,W5]
def qZ {l:List Fac} (a:zZ 12 (nb l) d) (b:i<l.length):zQ prog 29 d (.int .i64 (i:Int))=some (.iptr l[i].cells 0):=zb a KY Qz (Ja b)
abbrev zHy:List D:=[.int .i64 0, .str [], .str [], .int .i64 0, .int .i64 0, .int .i64 0, .bool false, .int .i64 0, .str [], .str [], .nilsl, .nilsl]
def Y5 {f:Fac} (a:f.Ok) (h:Heap) (id:Nat):zP prog 58 (.ptr id 0) (.agg f.cells) (h.new id (.row zHy))=some (h.new id (.row f.cells)):=zg Qz ow rfl rfl (by show(true&&(true&&(true&&(true&&(true&&(true&&(true&&(true&&(true&&(true&&(f.e.d.flat&&(f.d.flat&&true))))))))))))=true;rw[Ex.flat a.e,rG a.list];rfl)
def rY (c:Cat) (l:List Fac) (i:Nat):Int:=match l[i]? with
 |some f=>p9 c f
 |none=>0
def Jb (f:Nat->Int):Nat->Option (Nat×Int)
 |0=>none
 |n+1=>match Jb f n with
  |some p=>some p
  |none=>if(f n==0)=true then none else some (n,f n)
theorem fg {f:Nat->Int} :∀ {n:Nat},(∀j,j<n->f j=0)->Jb f n=none
 |0,_=>rfl
 |n+1,h=>by simp[Jb,fg (n:=n) λj a=>h j ow,h n ow]
theorem MP {f:Nat->Int} :∀ {n i:Nat},i<n->(∀j,j<i->f j=0)->f i≠0->Jb f n=some (i,f i)
 |n+1,i,b,a,h0=>by
  rcases Nat.lt_succ_iff_lt_or_eq.1 b with q|rfl
  ·simp[Jb,MP q a h0]
  ·simp[Jb,fg a,h0]
def qn (c:Cat) (l:List Fac):Int×Int:=
 if(!(tK c==0))=true then(-1,1)
 else if decide ((l.length:Int)>256)=true then(-1,10)
 else match Jb (rY c l) l.length with
  |some p=>((p.1:Int),p.2)
  |none=>(0,0)
def W6 (o:yt c d) (H:c.Sm) {l:List Fac} (J:zZ 12 (nb l) x) (U:l.length<=1048576) (t:∀f∈l,f.Ok) (g:Heap):zA prog 43 [d,x] g λr h'=>h'=g/\r= .tuple [.int .i64 (qn c l).1, .int .i64 (qn c l).2]:=by
 refine xU kr λT=> ?_;have G:∀k m:Int,below g.next (.tuple [.int .i64 k, .int .i64 m]):=λk m=>by simp[below,zf]
 have q:=oX o H;have b:=λf (hf:f∈l) h=>W4 o H (t f hf) h;have P:=uR J;have O:=nZ;have B:=Ext.refl g;obtain⟨ca,cb,ce,cp,rfl,_,_,_,_⟩:=o;refine xO mix func43 zGk rfl rfl ?_;simp only[f43,gJ];cases E:(tK c==0) with
 |false=>
  have s:qn c l=(-1,1):=ip (by rw[E];rfl);clear b
  repeat' first|simp only[go_sem, *]|apply bc<;>intro o|(refine zA.mono (q _) ?_;rintro r h ⟨v,rfl⟩)
 |true=>
 cases K:decide ((l.length:Int)>256) with
 |true=>
  have s:qn c l=(-1,10):=by unfold qn;rw[iq (by rw[E];decide),ip K]
  clear b
  repeat' first|simp only[go_sem, *]|apply bc<;>intro o|(refine zA.mono (q _) ?_;rintro r h ⟨v,rfl⟩)
 |false=>
 have s:qn c l=match Jb (rY c l) l.length with
  |some p=>((p.1:Int),p.2)
  |none=>(0,0):=by unfold qn;rw[iq (by rw[E];decide),iq (by rw[K];exact Bool.false_ne_true)]
 obtain⟨R,F⟩:∃R,qn c l=R:=⟨_,rfl⟩;rw[F] at s⊢;have a:=s.symm;clear s F
 repeat' first|simp only[go_sem, *]|apply bc<;>intro o|(refine zA.mono (q _) ?_;rintro r h ⟨v,rfl⟩)
 refine zD (λk fr h=>fr 2= .iptr [ca,cb,ce,cp] 0/\fr 15=x/\fr 16= .int .i64 (l.length:Int)/\fr 17= .int .i64 (k:Int)/\Ext g h/\∀j,j<k->rY c l j=0) l.length ow ?_ ?_ ?_
 ·simp only[go_sem,true_and,and_true,Int.ofNat_zero];exact⟨B,λj n=>absurd n (Nat.not_lt_zero _)⟩
 ·rintro k fr h i M S ⟨N,w,y,z,A,n⟩;have L:=qZ J i;have hf:=b l[k] (List.getElem_mem i);have D:=Y5 (t l[k] (List.getElem_mem i)) h h.next;have C:=A.new A.1 (.row l[k].cells);have e:rY c l k=p9 c l[k]:=by simp[rY,i]
  generalize l[k]=f at *
  simp only[Fac.cells] at L hf D C;cases I:(p9 c f==0) with
  |true=>
   have Q:=wm n (by rw[e];simpa using I);clear n b e a
   repeat' first|simp only[go_sem,zK, *]|apply bc<;>intro o|(refine zA.mono (hf _) ?_;rintro r h ⟨v,rfl⟩)
   exact Q
  |false=>
   have u:Jb (rY c l) l.length=some (k,p9 c f):=by rw[MP i n (by rw[e];simpa using I),e]
   rw[u] at a;simp only at a;have r1:R.1=(k:Int):=by rw[<-a]
   have r2:R.2=p9 c f:=by rw[<-a]
   clear n b e a u
   repeat' first|simp only[go_sem,zK, *]|apply bc<;>intro o|(refine zA.mono (hf _) ?_;rintro r h ⟨v,rfl⟩)
 ·rintro fr h M ⟨N,w,y,z,A,n⟩;rw[fg n] at a;simp only at a;have r1:R.1=0:=by rw[<-a]
  have r2:R.2=0:=by rw[<-a]
  clear n b a;exact au
end Go.V
