/- Rules of the machine of abstract values, part 2. No condition. -/
import Derived.Test.YtmkfpfodpehkoaaGreatDoorW18
import Derived.Test.YtmkfpfodpehkoaaGreatDoorW05
import Derived.Sort.Row
set_option linter.all false
set_option maxHeartbeats 8000000
namespace Go.V
section
variable{P:Program}
variable{k:Nat}
theorem U2:∀{xs:List (List D)},(∀x∈xs,qZ k x)->lA k xs
 | [],_=>by simp only[lA]
 |x::xs,h=>by
  simp only[lA];exact⟨h x (by simp),U2 λy a=>h y (by simp[a])⟩
theorem Rf:∀{xs:List (List D)},(∀x∈xs,wU x=x)->oB xs=xs
 | [],_=>by simp only[oB]
 |x::xs,h=>by
  simp only[oB];rw[h x (by simp),Rf λy a=>h y (by simp[a])]
def sH(cs:List D):Prop:=cs.all D.flat=true/\qZ 0 cs/\wU cs=cs
end
def Ext(h h':Heap):Prop:=h.next<=h'.next/\∀i,i<h.next->h'.at' i=h.at' i
def But(S:Nat->Prop)(h h':Heap):Prop:=h.next<=h'.next/\∀i,i<h.next->¬S i->h'.at' i=h.at' i
def Ext.refl(h:Heap):Ext h h:=⟨zD _,λ_ _=>rfl⟩
def Ext.trans{h1 c h3:Heap}(a:Ext h1 c)(b:Ext c h3):Ext h1 h3:=⟨za a.1 b.1,λi d=>by rw[b.2 i (by have:=a.1;omega),a.2 i d]⟩
variable{id k i nid sz n:Nat}{S S':Nat->Prop}{K Q:D->Heap->Prop}{args cs:List D}{h h' h0:Heap}{xs ys X:List (List D)}{t:TypeId}{tk:Tk}{α:Type}{l:Loc}{ev:Operand->D}{d z x:D}{o:Oper}{bk:Nat->Bool}{P:Program}{f:FuncId}{fr:Frm}{b:Bool}
def Ext.new{h h1:Heap}(a:Ext h h1)(hid:h.next<=id)(o:Obj):Ext h (h1.new id o):=⟨za a.1 (sF _ _ _),λi b=>by rw[zz ow,a.2 i b]⟩
def Ext.set{h h1:Heap}(a:Ext h h1)(hid:h.next<=id)(o:Obj):Ext h (h1.set id o):=⟨a.1,λi b=>by rw[zx ow,a.2 i b]⟩
def Ext.del{h h1:Heap}(a:Ext h h1)(hid:h.next<=id):Ext h (h1.del id):=⟨a.1,λi b=>by rw[uK ow,a.2 i b]⟩
def Ext.but{h h1:Heap}(a:Ext h h1)(S:Nat->Prop):But S h h1:=⟨a.1,λi b _=>a.2 i b⟩
def But.refl(S:Nat->Prop)(h:Heap):But S h h:=⟨zD _,λ_ _ _=>rfl⟩
def But.trans{h1 c h3:Heap}(a:But S h1 c)(b:But S' c h3)(f:∀i,S' i->S i\/h1.next<=i):But S h1 h3:=
 ⟨za a.1 b.1,λi e d=>by rw[b.2 i (by have:=a.1;omega) (λh=>(f i h).elim d ow),a.2 i e d]⟩
def But.set{h h1:Heap}(a:But S h h1)(hid:S id\/h.next<=id)(o:Obj):But S h (h1.set id o):=⟨a.1,λi c b=>by rw[zx (λe=>by subst e;exact hid.elim b ow),a.2 i c b]⟩
@[go_sem] theorem qS(h:Heap)(i:Nat)(o:Obj):(h.set i o).next=h.next:=(rfl)
@[go_sem] theorem NZ(h:Heap)(i:Nat):(h.del i).next=h.next:=(rfl)
def yA(h:Heap)(o:Obj):(h.new h.next o).next=h.next+1:=by simp[Heap.new]
def qW(h:Heap)(a:h.next<=i)(o:Obj):(h.new i o).next=i+1:=by simp[Heap.new];omega
section
variable{P:Program}{g:Cfg}{n:Nat}{ro:Option Nat}{Q:Exit->Frm->Heap->Prop}{fr:Frm}{h:Heap}
def Qq(ro:Option Nat)(h:Heap):Prop:=
 match ro with
 |none=>True
 |some id=>∃r,h.at' id=some (.loop r)
@[go_sem ↓] theorem EZ:Qq none h=True:=(rfl)
@[go_sem ↓] theorem zIY(f:FuncId)(a c args:List D)(K:D->Heap->Prop):VFn P (.fn (.func f) a c) args h K=zB P f (a++args++c) h K:=(rfl)
@[go_sem ↓] theorem GY(f:Operand)(ps:Array Tmp)(asg body:Code):vwp P g n ro (.rangeFunc f ps asg body) Q fr h =
  (Qq ro h/\VFn P (qt fr f) [.yld h.next] (h.new h.next (.loop ⟨.ready,none,fr,ps,asg,body,n⟩)) λ_ h'=>∃r,h'.at' h.next=some (.loop r)/\r.st≠ .busy/\UI r.pending Q fr (h'.del h.next)):=by
 cases ro<;>simp only[vwp,Qq]
def nw:UI none Q fr h=Q .normal fr h:=(rfl)
def XL:UI (some .ret) Q fr h=Q .ret fr h:=(rfl)
@[go_sem ↓] theorem AD(t:Tmp)(ts:List Tmp)(d:D)(ds:List D):aU fr (t::ts) (d::ds)=aU (o6 fr (some t) d) ts ds:=(rfl)
@[go_sem ↓] theorem zEK:aU fr [] []=fr:=(rfl)
def rq(K:D->Heap->Prop)(id:Nat)(e:Exit)(_:Frm)(h2:Heap):Prop:=∃L2,h2.at' id=some (.loop L2)/\UO K id L2 e h2
def sV{L:LRec}(a:h.at' id=some (.loop L))(b:K (.bool true) (h.set id (.loop { L with st:=.ready,pending:=none }))):rq K id .normal fr h:=⟨L,a,b⟩
def aR{L:LRec}(a:h.at' id=some (.loop L))(b:K (.bool false) (h.set id (.loop { L with st:=.done,pending:=some .ret }))):rq K id .ret fr h:=⟨L,a,b⟩
def uN.round(f:P.follows .mixedOrders=true){b:Array Tmp}{a body:Code}(m:h.at' id=some (.loop ⟨.ready,none,fr,b,a,body,n⟩))(d:args.length=b.size)
  (i:b.toList.all (λt=>decide (t<n))=true) (k:sN P g n a=true) (l:sN P g n body=true)
  (o:vwp P g n (some id) a (gm (λc h1=>h1.at' id=some (.loop ⟨.ready,none,fr,b,a,body,n⟩)/\vwp P g n (some id) body (rq K id) c (h1.set id (.loop ⟨.busy,none,fr,b,a,body,n⟩))) (λ_ _ _=>False)) (aU fr b.toList args) h):uN P id args h K:=by
 refine uN.of_round (g:=g) f m d i k l (rH a (λe c h1 j=> ?_) _ _ o);cases e with
 |normal=>exact⟨_,j.1,rfl,j.2⟩
 |_=>exact j.elim
structure Yld(P:Program)(id:Nat)(len:Nat)(el:Nat->List D)(Y:Nat->(Nat->Prop)->Heap->Prop)(Z:(Nat->Prop)->Heap->Prop):Prop where
 here:∀k S h,Y k S h->∀i,S i->i<h.next
 loc:∀k S h h',Y k S h->h.next<=h'.next->(∀i,S i->h'.at' i=h.at' i)->Y k S h'
 hereZ:∀S h,Z S h->∀i,S i->i<h.next
 locZ:∀S h h',Z S h->h.next<=h'.next->(∀i,S i->h'.at' i=h.at' i)->Z S h'
 go:∀k S h,k<len->Y k S h->uN P id (el k) h λr h'=>∃S',(∀i,S' i->S i\/h.next<=i)/\But S h h'/\((r=.bool true/\Y (k+1) S' h')\/(r=.bool false/\Z S' h'))
variable{h:Heap}
def Yld.ext{id len:Nat}{el:Nat->List D}{Y:Nat->(Nat->Prop)->Heap->Prop}{Z:(Nat->Prop)->Heap->Prop}(y:Yld P id len el Y Z)(b:Y k S h)(a:Ext h h'):Y k S h':=
 y.loc k S h h' b a.1 λi c=>a.2 i (y.here k S h b i c)
end
section
variable{P:Program}{sz:Nat}
def tE(a:∀x∈xs,x.length=sz):xs.flatten.length=xs.length*sz:=by
 induction xs with
 |nil=>simp
 |cons x xs c=>rw[yc,zM,a x (by simp),c (λy b=>a y (by simp[b])),zm,qf];omega
theorem Yl:∀{xs:List (List D)}(_:∀x∈xs,x.length=sz){i:Nat}{x:List D}(_:xs[i]? =some x),(xs.flatten.drop (i*sz)).take sz=x
 | [],_,i,x,h=>by simp at h
 |y::xs,a,0,x,h=>by
  simp only[wb,wt]at h;subst h;rw[pV,uX,yc,uy (by rw[a y (by simp)];exact zD _),yj (by rw[a y (by simp)];exact zD _)]
 |y::xs,a,i+1,x,h=>by
  simp only[tC]at h;have c:=a y (by simp);rw[yc,qf,j5,jd,wq ow,yT,show sz+i*sz-y.length=i*sz by omega];exact Yl (λz b=>a z (by simp[b])) h
theorem NE:∀{xs:List (List D)}(_:∀x∈xs,x.length=sz){i:Nat}(_:i<xs.length){x:List D}(_:x.length=sz),uG xs.flatten x (i*sz)=(xs.set i x).flatten
 | [],_,i,h,x,_=>by simp at h
 |y::xs,a,0,h,x,b=>by
  have d:=a y (by simp);simp only[uG,pV,ss,yT,yo,yc,mw];rw[jd,wq ow,yT,show x.length-y.length=0 by omega,uX]
 |y::xs,a,i+1,h,x,b=>by
  have d:=a y (by simp);have c:=NE (xs:=xs) (λz e=>a z (qI _ e)) (i:=i) (by simpa using h) b;simp only[uG]at c⊢;rw[yc,List.set_cons_succ,yc,<-c,qf,j5 (i*sz) sz,List.take_append,yj ow,show sz+i*sz-y.length=i*sz by omega,jd,wq ow,yT,show sz+i*sz+x.length-y.length=i*sz+x.length by omega];simp
def wE{t e:TypeId}{id len:Nat}(a:tQ P t=some e)(c:szT P e=sz){k:IntKind}(b:i<len):yP P t (.rs id sz 0 len) (.int k (i:Int))=some (.ptr id (i*sz)):=by
 simp[yP,a,c,b]
variable{h:Heap}
def lz{t e:TypeId}{id off len:Nat}(a:P.underlying t=some (.slice e)):js P t (.rs id sz off len) h=some (.int .i64 len):=by simp[js,a]
def mB(c:∀x∈xs,x.length=sz)(h0:0<sz){x:List D}(b:xs[i]? =some x):yN true sz xs.flatten (i*sz)=some (.agg x):=by
 have a:i<xs.length:=(zR.1 b).1;have h1:i*sz+sz<=xs.length*sz:=by rw[<-qf];exact yW _ a
 simp only[yN,qG];rw[iq ow,ip (by rw[tE c];exact h1),Yl c b]
def Xs(hr:h.at' id=some (.row xs.flatten))(c:∀x∈xs,x.length=sz)(h0:0<sz)(d:szT P t=sz)(a:i<xs.length){x:List D}(b:x.length=sz)(hf:x.all D.flat=true):
  qP P t (.ptr id (i*sz)) (.agg x) h=some (h.set id (.row (xs.set i x).flatten)):=by
 have h1:i*sz+sz<=xs.length*sz:=by rw[<-qf];exact yW _ a
 simp only[qP,hr,D.cells,d,b];rw[ip,NE c a b];simp only[zC,zP,ne_eq];refine⟨⟨⟨by omega,trivial⟩,by rw[tE c];exact h1⟩,hf⟩
def mL(a:∀x∈xs,x.length=sz):wY sz xs.length xs.flatten=xs:=by
 have:=nX sz xs [] 0 a;simpa [wY]using this
def lN{t e:TypeId}(c:tQ P t=some e)(g:X0 P e=true)(f:szT P e=sz)(h0:0<sz)(a:∀x∈xs,x.length=sz)(b:xs.length*uW P e<=lim)(d:xs.length<=lim):
  qh P false nid t (.sl sz [] .full) (.sl sz xs tk) h=if xs.length=0 then some (.sl sz [] .full,h)else some (.sl sz xs (.own nid),h.new nid .tok):=by
 simp only[qh,c,g,f,LF,qG,tE a,ur _ h0,th];rw[ip (by simp only[yw,yo,zC,zP];exact⟨⟨trivial,b⟩,d⟩)];simp only[zW,yz,mL a,yT]
def bV{t e:TypeId}(b:tQ P t=some e)(g:X0 P e=true)(d:szT P e=sz)(h0:0<sz)(f:∀x∈xs,x.length=sz)(a:xs.length*uW P e<=lim)(c:xs.length<=lim):
  qh P true nid t (.sl sz [] .full) (.sl sz xs tk) h=if xs.length=0 then some (.sl sz [] .full,h)else some (.rs nid sz 0 xs.length,h.new nid (nU P e xs.flatten)):=by
 simp only[qh,b,g,d,LF,qG,tE f,ur _ h0,th];rw[ip (by simp only[yw,yo,zC,zP];exact⟨⟨trivial,a⟩,c⟩)];simp only[yw,yo,List.flatten_nil,yT]
def M4{e:TypeId}(a:P.underlying e=some (.int .i64)):nU P e cs=.row cs:=by simp[nU,a]
def ng{e:TypeId}{fs:Array Field}(a:P.underlying e=some (.struct fs)):nU P e cs=.row cs:=by simp[nU,a]
end
open Go.RowKit (Below)
def Y8(W:World)(b:Nat)(c':Array Value):Go.Sort.mapBlock W b (λ_=>c')=W.setRow b c':=by
 unfold Go.Sort.mapBlock World.setRow;congr 1
section
variable{w0:Base}{G:List Nat}{M:Imm}{ρ:Ren}{h:Heap}{w:World}
theorem Sim.ahead(a:Sim w0 G M ρ h w):∀q:Nat,Sim w0 G M ρ h (Go.Sort.ahead w q)
 |0=>a
 |q+1=>by
  have:=(Sim.ahead a q).drew
  rwa [Go.Sort.ahead_drew]at this
def Sim.putRow [Inhabited α]{enc:α->Value}{dd:α->D}(r:∀x,(dd x).flat=true)(B:Sim w0 G M ρ h w){pre post:List D}{xs ys:List α}(z:h.at' id=some (.row (pre++xs.map dd++post)))(A:ρ id=some l)
  (j:ys.length=xs.length) (J:∀y∈ys,rel M ρ (dd y) (enc y)):Sim w0 G M ρ (h.set id (.row (pre++ys.map dd++post))) (Go.Sort.putRow enc w l.blk pre.length ys.toArray):=by
 obtain⟨N,h1,_,hM,c,e,C,H,p,a⟩:=B.live id _ z;rw[A]at h1;cases h1;have F:(pre++xs.map dd++post).length=pre.length+xs.length+post.length:=by simp;omega
 have o:(pre++ys.map dd++post).length=pre.length+xs.length+post.length:=by simp[j];omega
 unfold Go.Sort.putRow;rw[Go.Sort.mapBlock_congr w l.blk (Go.Sort.putCells enc pre.length ys.toArray) (λ_=>Go.Sort.putCells enc pre.length ys.toArray c) (λK e1 E h1=>by rw[C]at h1;cases h1;rfl),Y8];have m:(Go.Sort.putCells enc pre.length ys.toArray c).size=c.size:=by simp[Go.Sort.putCells]
 refine B.setRow z A C m (by rw[m,o,<-F];exact p) (wS (by
  have e:(Go.Sort.putCells enc pre.length ys.toArray c).toList.length=c.size:=by rw[yJ];exact m
  rw[z7,e];omega) λi d v b s=> ?_) ?_
 ·have k:i<(pre++ys.map dd++post).length:=(zR.1 b).1;rw[yC,ip k,qX]at s;simp only[Go.Sort.putCells,Array.getElem?_mapIdx]at s;obtain⟨v0,t,rfl⟩:=zZ.1 s;by_cases f:pre.length<=i/\i<pre.length+ys.toArray.size
  ·rw[ip f];have n:i-pre.length<ys.length:=by have:=f.2;simp only[qi]at this;omega
   rw[z8,yf f.1,yk (by simpa using n),yK,zE n]at b;cases b;rw[uJ ys.toArray (i-pre.length) (by simpa using n)];exact J _ (by simp)
  ·rw[iq f];have q:(pre++xs.map dd++post)[i]? =some d:=by
    simp only[qi,not_and,Nat.not_lt]at f;by_cases I:i<pre.length
    ·rw[z8,yk I]at b⊢;exact b
    ·have L:=f ow;rw[yf (by simp;omega)]at b⊢;simpa [j]using b
   obtain⟨_,u,e1,e2⟩:=a i d q;rw[t]at e1;cases e1;exact e2
 ·rw[uf,uf];have h1:pre.all D.flat=true:=ze.2 λd b=>by
   obtain⟨i,g⟩:=yY.1 b;have k:=(zR.1 g).1;exact(a i d (by rw[z8,yk k];exact g)).1
  have h3:post.all D.flat=true:=ze.2 λd b=>by
   obtain⟨i,g⟩:=yY.1 b;exact(a (pre.length+xs.length+i) d (by rw[yf (by simp)];simpa using g)).1
  rw[h1,h3,ze.2 λd b=>by obtain⟨y,_,rfl⟩:=zT.1 b;exact r y];rfl
end
abbrev Way:=Nat×Fl×Bool
def onO(o:Option Oper)(k:Oper->Prop):Prop:=
 match o with
 |some o=>k o
 |none=>False
def Xg(P:Program)(h0:Heap)(o:Op)(ev:Operand->D)(k:D->Prop):Prop:=
 match o with
 |.load t a=>onS (kW P t (ev a) h0) k
 |o=>∃d,Ie P h0 o ev d/\k d
def Jo(P:Program)(h0:Heap)(o:Op)(ev:Operand->D)(k:D->Prop):Prop:=(uj o).isSome=true/\∃S:D->Prop,(∃e,S e)/\N7 P h0 o ev S/\∀d,S d->k d
def IH(P:Program)(mu:Tmp->Bool)(h0:Heap)(st:Fl)(ops:Array Oper)(o:Oper)(fr:Frm)(h:Heap)(k:D->Heap->Prop):Prop:=
 match uR ops fr o.guard with
 |false=>k sn h
 |true=>match st with
  |.st=>Xg P h0 o.op (qt fr) λd=>k d h
  |.sq=>Jo P h0 o.op (qt fr) λd=>k d h
  |.no=>sZ P (bj mu o.dst) h.next o.op (qt fr) h k
  |.qu=>sZ P (bj mu o.dst) h.next o.op (qt fr) h λd h'=>h'=h/\k d h
  |.al i=>sZ P (bj mu o.dst) (h0.next+i) o.op (qt fr) h k
def Um(P:Program)(mu:Tmp->Bool)(h0:Heap)(ops:Array Oper):List Way->(Frm->Heap->Prop)->Frm->Heap->Prop
 | [],K,fr,h=>K fr h
 |w::rest,K,fr,h=>onO ops[w.1]? λo=>IH P mu h0 w.2.1 ops o fr h λd h'=>(w.2.2=true->HLe h0 h')/\Um P mu h0 ops rest K (o6 fr o.dst d) h'
def Xv(bk:Nat->Bool):Bool->List (Nat×Fl)->List Way->Bool
 |_,[],[]=>true
 |fl,x::xs,w::ws=>Nat.beq x.1 w.1&&(match x.2 with
  |.no=>match w.2.1 with
   |.no=>true
   |_=>false
  |.st=>match w.2.1 with
   |.st=>true
   |_=>false
  |.sq=>match w.2.1 with
   |.sq=>true
   |_=>false
  |.qu=>match w.2.1 with
   |.qu=>true
   |_=>false
  |.al i=>match w.2.1 with
   |.al j=>Nat.beq i j
   |_=>false)&&(w.2.2|| !(fl&& !bk x.1))&&Xv bk (fl&& !bk x.1) xs ws
 |_,_,_=>false
section
variable{P:Program}{g:Cfg}{n:Nat}{ro:Option Nat}{Q:Exit->Frm->Heap->Prop}{fr:Frm}{h:Heap}{mu:Tmp->Bool}{h0:Heap}
def Js{a:Operand}(c:kW P t (ev a) h0=some d):Ie P h0 (.load t a) ev d:=by
 intro h' b;simp only[sZ,uj,vop,N2 b c,qo];exact⟨trivial,trivial⟩
def Bf{st:Fl}{ops:Array Oper}{k:D->Heap->Prop}(b:IH P mu h0 st ops o fr h k):ux P mu h0 st ops o fr h k:=by
 unfold IH at b;unfold ux;split at b
 ·rename_i c;rw[c];exact b
 ·rename_i c;rw[c];cases st with
  |st=>
   simp only at b⊢;unfold Xg at b;split at b
   ·rename_i t a f;rw[f];unfold onS at b;split at b
    ·rename_i d e;exact⟨d,Js e,b⟩
    ·exact b.elim
   ·exact b
  |_=>exact b
theorem aa{ops:Array Oper}{K:Frm->Heap->Prop} :∀{l:List (Nat×Fl)}{g:List Way}{fl:Bool}{fr:Frm}{h:Heap},Xv bk fl l g=true->Um P mu h0 ops g K fr h->nA P mu h0 bk ops fl l K fr h
 | [],[],_,fr,h,_,a=>a
 | [],_::_,_,_,_,c,_=>by simp[Xv]at c
 |_::_,[],_,_,_,c,_=>by simp[Xv]at c
 |(i,st)::l,(j,e,b)::g,fl,fr,h,c,a=>by
  simp only[Xv,zC]at c;obtain⟨⟨⟨q,f⟩,m⟩,r⟩:=c;have e1:i=j:=yq q;have e2:st=e:=by
   cases st<;>cases e<;>simp only at f<;>(first|rfl|(cases f;done)|skip)
   rw[yq f]
  subst e1;subst e2;simp only[Um]at a;simp only[nA];unfold onO at a;split at a
  ·rename_i o p;rw[p];refine cG (λd h' k=>⟨λn=>k.1 ?_,aa r k.2⟩) (Bf a);cases b with
   |true=>rfl
   |false=>rw[n]at m;simp at m
  ·exact a.elim
def qD(h0:Heap)(c:List Way){l:List Oper}(e:Xv (Lj P g.mu l.toArray (g.dr id) (aG l 0 [])) ((g.dr id).any (·.2.isSt)) (g.dr id) c=true)(a:Nat.beq (alN (g.dr id)) 0=true)(b:HLe h0 h)
  (d:Um P g.mu h0 l.toArray c (Q .normal) fr h):vwp P g n ro (.region id l.toArray true) Q fr h:=by
 rw[Up];refine⟨h0,b,?_⟩;rw[bZ (yq a)];exact aa e d
def II(m:Nat)(c:Nat->Option Obj)(e:List Way){l:List Oper}(j:Xv (Lj P g.mu l.toArray (g.dr id) (aG l 0 [])) ((g.dr id).any (·.2.isSt)) (g.dr id) e=true)(a:Nat.beq (alN (g.dr id)) (m+1)=true)(b:∀i d,c i=some d->h.at' i=some d)
  (f:Um P g.mu ⟨h.next,c⟩ l.toArray e (Q .normal) fr (h.bump (m+1))):vwp P g n ro (.region id l.toArray true) Q fr h:=by
 rw[Up];refine⟨⟨h.next,c⟩,b,?_⟩;rw[Rp (yq a)];exact⟨rfl,aa j f⟩
def pI:Nat->List (Nat×Fl)->List Oper->Bool
 |_,[],[]=>true
 |k,x::xs,_::os=>Nat.beq x.1 k&&x.2.isNo&&pI (k+1) xs os
 |_,_,_=>false
variable{h0:Heap}
theorem VG{ops:Array Oper}{K:Frm->Heap->Prop} :∀{l:List (Nat×Fl)}{os pre:List Oper}{fr:Frm}{h:Heap},ops.toList=pre++os->pI pre.length l os=true->Xz P mu ops os K fr h->nA P mu h0 bk ops false l K fr h
 | [],[],_,fr,h,_,_,a=>a
 | [],_::_,_,_,_,_,b,_=>by simp[pI]at b
 |_::_,[],_,_,_,_,b,_=>by simp[pI]at b
 |(i,st)::l,o::os,pre,fr,h,g,b,a=>by
  simp only[pI,zC]at b;obtain⟨⟨n,p⟩,q⟩:=b;have e1:i=pre.length:=yq n;subst e1;have k:ops[pre.length]? =some o:=by rw[<-qX,g];simp
  have f:st=.no:=by cases st<;>simp[Fl.isNo]at p<;>rfl
  subst f;simp only[nA,k,yV];simp only[Xz]at a;have j:∀fr h,Xz P mu ops os K fr h->nA P mu h0 bk ops false l K fr h:=λfr h a=>VG (pre:=pre++ [o]) (by simp[g]) (by simpa using q) a;unfold ux;split at a
  ·rename_i c;rw[c];exact fB (λd h' m=>⟨λe=>(by cases e),j _ _ m⟩) a
  ·rename_i c;rw[c];exact⟨λe=>(by cases e),j _ _ a⟩
theorem ZL:∀{l:List (Nat×Fl)}{os:List Oper}{k:Nat},pI k l os=true->l.any (·.2.isSt)=false/\alN l=0
 | [],[],_,_=>⟨rfl,rfl⟩
 | [],_::_,_,a=>by simp[pI]at a
 |_::_,[],_,a=>by simp[pI]at a
 |(i,st)::l,o::os,k,a=>by
  simp only[pI,zC]at a;obtain⟨h1,c⟩:=ZL a.2;have b:st=.no:=by have:=a.1.2;cases st<;>simp[Fl.isNo]at this<;>rfl
  subst b;exact⟨by rw[sQ,h1];rfl,by simp only[alN,c]⟩
def zd{l:List Oper}(a:pI 0 (g.dr id) l=true)(c:Xz P g.mu l.toArray l (Q .normal) fr h):vwp P g n ro (.region id l.toArray true) Q fr h:=by
 obtain⟨h1,b⟩:=ZL a;rw[Up];refine⟨⟨0,λ_=>none⟩,λi d e=>(by cases e),?_⟩;rw[bZ b,h1];exact VG (pre:=[]) rfl a c
end
section
variable{P:Program}{mu:Tmp->Bool}{h0:Heap}{ops:Array Oper}{l:List Oper}{K:Frm->Heap->Prop}{k:D->Heap->Prop}{fr:Frm}{h:Heap}{dst:Option Tmp}{ty:TypeId}{pos:String}{after:Array Edge}{rest:List Way}
@[congr] theorem zD4{o o':Option Oper}{k:Oper->Prop}(h:o=o'):onO o k=onO o' k:=by rw[h]
@[go_sem ↓] theorem zEn:Um P mu h0 ops [] K fr h=K fr h:=(rfl)
@[go_sem ↓] theorem AW(w:Way):Um P mu h0 l.toArray (w::rest) K fr h=onO l[w.1]? λo=>IH P mu h0 w.2.1 l.toArray o fr h λd h'=>(w.2.2=true->HLe h0 h')/\Um P mu h0 l.toArray rest K (o6 fr o.dst d) h':=by
 simp only[Um,tu]
@[go_sem ↓] theorem zFH(o:Oper)(k:Oper->Prop):onO (some o) k=k o:=(rfl)
@[go_sem ↓] theorem zIR(op:Op):IH P mu h0 .no ops ⟨dst,op,ty,pos,after,none⟩ fr h k=sZ P (bj mu dst) h.next op (qt fr) h k:=(rfl)
@[go_sem ↓] theorem zIQ(i:Nat)(op:Op):IH P mu h0 (.al i) ops ⟨dst,op,ty,pos,after,none⟩ fr h k=sZ P (bj mu dst) (h0.next+i) op (qt fr) h k:=(rfl)
@[go_sem ↓] theorem zIT(op:Op):IH P mu h0 .st ops ⟨dst,op,ty,pos,after,none⟩ fr h k=Xg P h0 op (qt fr) λd=>k d h:=(rfl)
@[go_sem ↓] theorem zIS(op:Op):IH P mu h0 .sq ops ⟨dst,op,ty,pos,after,none⟩ fr h k=Jo P h0 op (qt fr) λd=>k d h:=(rfl)
@[go_sem ↓] theorem BQ(t:TypeId)(a:Operand)(k:D->Prop):Xg P h0 (.load t a) (qt fr) k=onS (kW P t (qt fr a) h0) k:=(rfl)
@[go_sem ↓] theorem AY(st:Fl)(op:Op)(j:Nat)(b:Bool):IH P mu h0 st ops ⟨dst,op,ty,pos,after,some (j,b)⟩ fr h k =
  gif (uR ops fr (some (j,b))) (IH P mu h0 st ops ⟨dst,op,ty,pos,after,none⟩ fr h k) (k sn h):=by
 unfold IH gif;cases uR ops fr (some (j,b))<;>rfl
end
def zCc:D->Bool
 |.nilsl=>true
 |_=>false
section
variable{P:Program}{t e:TypeId}{c:Bool}{sz:Nat}{xs:List (List D)}{d:D}
def jV(a:ye sz xs d)(b:P.underlying t=some (.slice e)):fV P .eql t c d .nilsl=some (.bool (zCc d)):=by
 rcases a with⟨rfl,rfl⟩ | ⟨tk,rfl⟩ <;>simp[fV,GU,oA,veq,b,zCc]
variable{h:Heap}
def nN(c:tQ P t=some e)(f:sD P e=some z)(d:szT P e=sz)(b:z.notTuple=true)(a:z.cells.length=sz)(h0:0<sz):yB P false nid t 0 [] h=some (.sl sz [] .full,h):=by
 simp only[yB,c,f,d];rw[ip (by simp[b,a,h0])];simp[tp,wY]
end
variable{xs:List (List D)}{k sz n:Nat}{K Q:D->Heap->Prop}{h h0:Heap}{t:TypeId}{l:Loc}{d:D}{P:Program}{fr:Frm}
def zCR{id sz len:Nat}(a:∀x∈xs,x.length=sz)(c:xs.length=len)(b:cs=xs.flatten):frz id cs (.rs id sz 0 len)=.sl sz xs .no:=by
 subst b c;simp only[frz];rw[ip ⟨trivial,by rw[tE a];omega⟩,uX,yj (by rw[tE a];omega),mL a]
def Heap.Ok(h:Heap):Prop:=∀i,h.next<=i->h.at' i=none
def zB.known(e:pO P f=true)(j:qZ h.next args->h.Ok->zB P f args h Q):zB P f args h Q:=by
 refine⟨e,λw0 G M ρ w n b d a hr=>(j (oP a _ _ hr) λi g=> ?_).2 w0 G M ρ w n b d a hr⟩;cases k:h.at' i with
 |none=>rfl
 |some m=>
  obtain⟨l,c,_⟩:=d.live i m k;rw[a i g]at c;cases c
def Ext.hle(a:h.Ok)(b:Ext h h'):HLe h h':=λi d e=>by
 by_cases c:i<h.next
 ·rw[b.2 i c];exact e
 ·rw[a i ow]at e;cases e
def xU{Q:D->Prop}(c:pO P f=true)(e:h.Ok->zB P f args h λd h'=>Ext h h'/\below h.next d/\Q d):zB P f args h λd h'=>h'=h/\Q d:=
 zB.known c λ_ a=>zB.gc (λ_=>(e a).mono λ_ _ b=>⟨b.1.hle a,b.2.1,b.2.2⟩) c
theorem qg(a:∀x∈xs,sH x)(tk:Tk):wD (.sl sz xs tk)=.sl sz xs .no/\below 0 (.sl sz xs .no):=by
 have b:oB xs=xs:=Rf λx h=>(a x h).2.2;simp only[wD,b,below,zS,zQ];exact U2 λx h=>(a x h).2.1
section
variable{P:Program}{k:Nat}{t e:TypeId}{c:List D}
def ma{q:IntKind}(a:P.underlying t=some (.int q))(h:Shp P k t c):∃n,c= [.int q n]/\fits q n:=by
 cases k with
 |zero=>simp only[Shp]at h
 |succ k=>simpa only[Shp,a]using h
def GF(a:P.underlying t=some .bool)(h:Shp P k t c):∃b,c= [.bool b]:=by
 cases k with
 |zero=>simp only[Shp]at h
 |succ k=>simpa only[Shp,a]using h
def rx(a:P.underlying t=some .string)(h:Shp P k t c):∃s,c= [.str s]/\s.length<=1048576:=by
 cases k with
 |zero=>simp only[Shp]at h
 |succ k=>simpa only[Shp,a]using h
def gg(f:P.underlying t=some (.slice e))(b:szT P e=sz)(h:Shp P k t c):∃d xs j,c= [d]/\j<k/\ye sz xs d/\(d=.nilsl\/d=.sl sz xs .no)/\xs.length<=1048576/\∀x∈xs,Shp P j e x:=by
 cases k with
 |zero=>simp only[Shp]at h
 |succ k=>
  simp only[Shp,f]at h;rcases h with rfl| ⟨xs,rfl,h1,a⟩
  ·exact⟨_,[],k,rfl,se _,ye.nil,.inl rfl,by simp,by simp⟩
  ·have:P.cellsOf e=sz:=b;rw[this];exact⟨_,xs,k,rfl,se _,ye.mk _,.inr rfl,h1,a⟩
def sv{fs:Array Field}(a:P.underlying t=some (.struct fs))(h:Shp P k t c):∃j,j<k/\E5 P (Shp P j) fs.toList c:=by
 cases k with
 |zero=>simp only[Shp]at h
 |succ k=>exact⟨k,se _,by simpa only[Shp,a]using h⟩
def qB{r:TypeId->List D->Prop}{f:Field}{fs:List Field}(h:E5 P r (f::fs) cs):∃c cs',cs=c++cs'/\r f.type c/\E5 P r fs cs':=h
def oZ{r:TypeId->List D->Prop}(h:E5 P r [] cs):cs= []:=h
end
section
variable{P:Program}
variable{t:TypeId}
def qO{id off:Nat}(b:h.at' id=some (.row cs))(e:szT P t=1)(c:off<cs.length)(a:x.cells= [x])(hf:x.flat=true):qP P t (.ptr id off) x h=some (h.set id (.row (cs.set off x))):=by
 have d:uG cs [x] off=cs.set off x:=by
  simp only[uG,ug];rw[List.set_eq_take_append_cons_drop,ip c];simp
 simp only[qP,b,e,a,d];rw[ip];simp[hf];omega
end
attribute [go_sem] true_and and_true true_implies implies_true false_implies
def nh{o:Obj}(c:h.at' i=some o):h.set i o=h:=by
 cases h with
 |mk n a=>
  simp only[Heap.set,Heap.mk.injEq,zQ]
  funext j
  by_cases b:j=i
  ·subst b;rw[ip rfl];exact c.symm
  ·rw[iq b]
def dy(h:Heap)(i:Nat)(o a:Obj):(h.new i o).set i a=h.new i a:=by
 simp only[Heap.set,Heap.new,Heap.mk.injEq,zQ]
 funext j
 by_cases b:j=i<;>simp[b]
variable{P:Program}{t:TypeId}{k:Nat}
def qk{cs cs':List D}(d:szT P t=n)(c:0<n)(b:cs.length=n)(a:cs'.length=n)(hf:cs'.all D.flat=true):qP P t (.ptr id 0) (.agg cs') (h.new id (.row cs))=some (h.new id (.row cs')):=by
 subst a;rw[rU (yQ _ _ _) d b c hf,dy]
def pT:D->Nat->Prop
 |.sl _ _ (.own t),i=>i=t
 |_,_=>False
def rc.app2{t e:TypeId}(o:rc h sz xs d)(n:tQ P t=some e)(r:X0 P e=true)(p:szT P e=sz)(h0:0<sz)(a:∀y∈ys,y.length=sz)(k:ys≠[])
  (g:(xs.length+ys.length)*uW P e<=lim) (j:xs.length+ys.length<=lim) (l:∀b h',rc h' sz (xs++ys) b->h.next<=h'.next->(∀i,i<h.next->¬pT d i->h'.at' i=h.at' i)->(∀i,pT b i->h.next<=i)->b.cells= [b]->b.flat=true->K b h'):onR (qh P false h.next t d (.sl sz ys tk) h) K:=by
 have m:0<ys.length:=yF.2 k;simp only[qh,n,r,p,LF,qG,tE a,ur _ h0];rcases o with⟨rfl,rfl⟩ | ⟨q,rfl,h1,s⟩
 ·simp only[th];rw[iq ow,ip (by simp only[zC,zP];simp only[yw,yo]at g j;exact⟨g,j⟩)];simp only[zW,yz,mL a,Zx];refine l _ _ (.inr ⟨h.next,by simp,yQ _ _ _,zy (se _) (jj _ _)⟩) (sF _ _ _) (λi c _=>zz ow) (λi c=> ?_) rfl rfl;simp only[pT]at c;omega
 ·simp only[th];rw[ip (by simp only[zC,zP];exact⟨⟨trivial,g⟩,j⟩)];simp only[h1,zW,yz,mL a,Zx];refine l _ _ (.inr ⟨h.next,rfl,yQ _ _ _,zy (se _) (jj _ _)⟩) (sF (h.del q) _ _) (λi c f=> ?_) (λi c=> ?_) rfl rfl
  ·simp only[pT]at f;rw[zz ow,uK f]
  ·simp only[pT]at c;omega
def Bp(n0 sz:Nat)(L:LRec)(ps:List (List D))(k:Nat)(S:Nat->Prop)(h:Heap):Prop:=
 n0+1<h.next/\h.at' (n0+1)=some (.loop L)/\∃d,h.at' n0=some (.row [d])/\rc h sz (ps.take k) d/\∀i,S i↔(i=n0\/i=n0+1\/pT d i)
def rc.tok(c:rc h sz xs d)(a:pT d i):i<h.next/\h.at' i=some .tok:=by
 rcases c with⟨rfl,_⟩ | ⟨t,rfl,h1,b⟩
 ·exact a.elim
 ·simp only[pT]at a;subst a;exact⟨b,h1⟩
def rc.loc(b:rc h sz xs d)(e:h.next<=h'.next)(a:∀i,pT d i->h'.at' i=h.at' i):rc h' sz xs d:=by
 rcases b with h1| ⟨t,rfl,h1,c⟩
 ·exact .inl h1
 ·exact .inr ⟨t,rfl,by rw[a t rfl];exact h1,by omega⟩
def Bp.here{e sz:Nat}{L:LRec}(y:Bp e sz L X k S h)(i:Nat)(b:S i):i<h.next:=by
 obtain⟨h1,_,d,_,h3,a⟩:=y;rcases(a i).1 b with rfl|rfl|c
 ·omega
 ·omega
 ·exact(h3.tok c).1
def Bp.loc{b sz:Nat}{L:LRec}(y:Bp b sz L X k S h)(g:h.next<=h'.next)(a:∀i,S i->h'.at' i=h.at' i):Bp b sz L X k S h':=by
 obtain⟨h1,c,d,h3,e,h5⟩:=y;exact⟨by omega,by rw[a _ ((h5 _).2 (.inr (.inl rfl)))];exact c,d,by rw[a _ ((h5 _).2 (.inl rfl))];exact h3,e.loc g λi f=>a i ((h5 i).2 (.inr (.inr f))),h5⟩
def Ext.of_but{h h1 c:Heap}(a:Ext h h1)(b:But S h1 c)(f:∀i,S i->h.next<=i):Ext h c:=
 ⟨za a.1 b.1,λi d=>by rw[b.2 i (by have:=a.1;omega) λe=>by have:=f i e;omega,a.2 i d]⟩
def Fin(sz:Nat)(xs:List (List D))(d:D):Prop:=(d=.nilsl/\xs= [])\/d=.sl sz xs .no
def Fin.isSl(hf:Fin sz xs d):ye sz xs d:=by
 rcases hf with⟨rfl,rfl⟩ |rfl
 ·exact ye.nil
 ·exact ye.mk _
def rc.fin(b:rc h sz xs d)(a:∀x∈xs,sH x):below 0 (wD d)/\Fin sz xs (wD d):=by
 rcases b with⟨rfl,rfl⟩ | ⟨t,rfl,_⟩
 ·exact⟨trivial,.inl ⟨rfl,rfl⟩⟩
 ·rw[(qg a _).1];exact⟨(qg a .no).2,.inr rfl⟩
@[go_sem ↓] theorem zCm(a:Oper)(l m:List Oper):List.append (a::l) m=a::List.append l m:=(rfl)
@[go_sem ↓] theorem zE8(m:List Oper):List.append [] m=m:=(rfl)
@[go_sem ↓] theorem zFB(a:Oper)(l:List Oper):(a::l)[0]? =some a:=(rfl)
@[go_sem ↓] theorem zFA(a:Oper)(l:List Oper)(n:Nat):(a::l)[n+1]? =l[n]? :=(rfl)
def gdB:D->Bool->Bool
 |.bool x,b=>x==b
 |_,_=>false
def zCT:Option Oper->Frm->Bool->Bool
 |some o,fr,b=>match o.dst with
  |some t=>gdB (fr t) b
  |none=>false
 |none,_,_=>false
@[go_sem ↓] theorem Cf(l:List Oper)(fr:Frm)(j:Nat)(b:Bool):uR l.toArray fr (some (j,b))=zCT l[j]? fr b:=by
 unfold uR zCT;simp only[tu];cases l[j]? with
 |none=>rfl
 |some o=>
  simp only[sf];cases o.dst with
  |none=>rfl
  |some t=>
   simp only;cases fr t<;>rfl
@[congr] theorem Bx{o o':Option Oper}(h:o=o'):zCT o fr b=zCT o' fr b:=by rw[h]
@[go_sem ↓] theorem zCU(t:Tmp)(op:Op)(ty:TypeId)(pos:String)(after:Array Edge)(gd:Option (Nat×Bool))(fr:Frm)(b:Bool):zCT (some ⟨some t,op,ty,pos,after,gd⟩) fr b=gdB (fr t) b:=(rfl)
@[go_sem ↓] theorem zE2(x b:Bool):gdB (.bool x) b=(x==b):=(rfl)
@[go_sem ↓] theorem zCS(b:Bool):gdB sn b=false:=(rfl)
@[go_sem] theorem zIt:(true==true)=true:=(rfl)
@[go_sem] theorem zIs:(true==false)=false:=(rfl)
@[go_sem] theorem zIr:(false==true)=false:=(rfl)
@[go_sem] theorem zIq:(false==false)=true:=(rfl)
def rz{g:Cfg}{ro:Option Nat}{c:Code}{K:Frm->Heap->Prop}{Q:Exit->Frm->Heap->Prop}(R:Frm->Heap->Prop)(h1:vwp P g n ro c (gm R λ_ _ _=>False) fr h)(b:∀fr h,R fr h->K fr h):vwp P g n ro c (gm K Q) fr h:=
 rH c (λe fr h a=>by
  cases e with
  |normal=>exact b fr h a
  |_=>exact a.elim) fr h h1
end Go.V
