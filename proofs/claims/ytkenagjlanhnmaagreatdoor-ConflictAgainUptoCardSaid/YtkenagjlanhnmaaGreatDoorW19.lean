/- Contracts of functions of the library in the numbers of this program, part 1. No condition. -/
import Derived.Shelf.SlGeneric
import Derived.Shelf.Strings.Builder1
import Derived.Shelf.Strconv.Atoi
import Derived.Shelf.Strings.Search2
import Derived.Shelf.Strings.Search3
import Derived.Shelf.Sort.Plain
import Derived.Ground.Names2Prog
import Derived.Shelf.Slices.Delete
import Derived.Test.YtkenagjlanhnmaaGreatDoorW18
import Derived.Test.YtkenagjlanhnmaaGreatDoorW05
import Derived.Sort.Row
set_option linter.all false
set_option maxHeartbeats 8000000
namespace Go.Proofs
def bears_k{P:Program}{i:Nat}{B:Func}(h1:(P.funcs[i]?).any (λf=> !(f.name== "runtime.NumGoroutine"))=true)(a:(P.funcs[i]?).map (λf=> { B with name:=f.name })=P.funcs[i]?):Bears P i B:=by
 cases h:P.funcs[i]? with
 |none=>rw[h]at h1;cases h1
 |some f=>
  rw[h]at h1 a;exact⟨f.name,by simpa using h1,h.trans a.symm⟩
def lay_k{p:Prop}(h:p:=by first|kernel_rfl|(show _=_;kernel_rfl)|(refine bears_k ?_ ?_<;>kernel_rfl)):p:=h
open Go.Shelf
def Tryz.lays160_ren:Go.Shelf.Ren:=⟨fun|160=>214|232=>261|231=>260|227=>262|234=>264|233=>263|236=>266|235=>265|228=>341|271=>343|151=>342|197=>211|120=>387|152=>386|260=>255|137=>425|119=>426|224=>258|225=>257|217=>256|266=>339|n=>n,fun|9=>9|4=>4|3=>3|5=>5|117=>327|116=>326|0=>0|124=>330|21=>21|105=>284|46=>299|119=>375|139=>378|138=>377|n=>n,fun|3=>1|4=>2|n=>n⟩
def Tryz.lays160:Go.Proofs.Lays.n160 Tryz.prog Tryz.lays160_ren:=by constructor<;>intros<;>exact lay_k
def Tryz.lays172_ren:Go.Shelf.Ren:=⟨fun|172=>215|244=>267|245=>268|247=>344|279=>345|280=>346|281=>347|282=>348|287=>388|316=>389|171=>391|205=>390|321=>427|322=>428|243=>429|246=>441|283=>445|284=>446|285=>447|286=>448|129=>302|317=>449|318=>450|319=>451|320=>452|337=>453|338=>454|n=>n,fun|9=>9|3=>3|75=>289|76=>290|4=>4|5=>5|167=>383|37=>255|0=>0|85=>384|2=>2|168=>386|53=>357|175=>415|46=>299|210=>419|127=>332|145=>449|143=>447|21=>21|171=>462|173=>464|212=>467|51=>355|20=>20|213=>468|232=>469|233=>470|80=>296|n=>n,fun|15=>3|16=>4|17=>5|18=>6|19=>7|n=>n⟩
def Tryz.lays172:Go.Proofs.Lays.n172 Tryz.prog Tryz.lays172_ren:=by constructor<;>intros<;>exact lay_k
open Go.RowKit in
def Tryz.strconv_Atoi(s:ByteArray)(n:Int)(a:s.size<=18)(h:Lib.atoi s.data.toList=some n)(w:World):
  Calls Tryz.prog 215 #[.string s] w λe b=>e=.returned (.tuple #[.int .i64 n,.nilIface])/\∃t,b=Lib.bytesWorld w 5 t:=Any.strconv_Atoi Tryz.lays172 s n a h w
def Tryz.laysM171_ren:Go.Shelf.Ren:=⟨fun|171=>391|243=>429|246=>441|283=>445|284=>446|285=>447|286=>448|129=>302|317=>449|318=>450|319=>451|320=>452|337=>453|338=>454|n=>n,fun|3=>3|9=>9|2=>2|4=>4|171=>462|0=>0|53=>357|37=>255|5=>5|173=>464|212=>467|51=>355|20=>20|213=>468|46=>299|232=>469|233=>470|n=>n,fun|17=>5|18=>6|19=>7|n=>n⟩
def Tryz.laysM171:Go.Proofs.LaysM.n171 Tryz.prog Tryz.laysM171_ren:=by constructor<;>intros<;>first|exact lay_k|(constructor<;>intros<;>exact lay_k)
def Tryz.lays219_ren:Go.Shelf.Ren:=⟨fun|219=>213|217=>256|225=>257|224=>258|267=>259|266=>339|314=>340|n=>n,fun|9=>9|3=>3|4=>4|5=>5|46=>299|146=>379|51=>355|n=>n,fun|1=>0|n=>n⟩
def Tryz.lays219:Go.Proofs.Lays.n219 Tryz.prog Tryz.lays219_ren:=by constructor<;>intros<;>exact lay_k
open Go.RowKit Go.Lib in
def Tryz.stringslite_Index_one(s:ByteArray)(c:UInt8)(w:World):
  Calls Tryz.prog 213 #[.string s,.string ⟨#[c]⟩] w λe a=>e=.returned (.int .i64 (Lib.indexByte s.data.toList c))/\a=w:=Any.stringslite_Index_one Tryz.lays219 s c w
def Tryz.lays143_ren:Go.Shelf.Ren:=⟨fun|143=>159|219=>213|217=>256|225=>257|224=>258|267=>259|266=>339|314=>340|n=>n,fun|9=>9|3=>3|4=>4|5=>5|46=>299|146=>379|51=>355|n=>n,fun|1=>0|n=>n⟩
def Tryz.lays143:Go.Proofs.Lays.n143 Tryz.prog Tryz.lays143_ren:=by constructor<;>intros<;>exact lay_k
open Go.RowKit Go.Lib in
def Tryz.strings_Index_one(s:ByteArray)(c:UInt8)(w:World):
  Calls Tryz.prog 159 #[.string s,.string ⟨#[c]⟩] w λe a=>e=.returned (.int .i64 (Lib.indexByte s.data.toList c))/\a=w:=Any.strings_Index_one Tryz.lays143 s c w
def Tryz.lays138_ren:Go.Shelf.Ren:=⟨fun|138=>158|195=>210|218=>212|143=>159|219=>213|217=>256|225=>257|224=>258|267=>259|266=>339|314=>340|n=>n,fun|9=>9|3=>3|4=>4|5=>5|0=>0|46=>299|146=>379|51=>355|n=>n,fun|1=>0|n=>n⟩
def Tryz.lays138:Go.Proofs.Lays.n138 Tryz.prog Tryz.lays138_ren:=by constructor<;>intros<;>exact lay_k
open Go.RowKit Go.Lib in
def Tryz.strings_Count_one(s:ByteArray)(c:UInt8)(w:World):
  Calls Tryz.prog 158 #[.string s,.string ⟨#[c]⟩] w λe a=>e=.returned (.int .i64 (Lib.countByte s.data.toList c))/\a=w:=Any.strings_Count_one Tryz.lays138 s c w
end Go.Proofs
namespace Go.V
section
variable{P:Program}
variable{k:Nat}
theorem bA:∀{xs:List (List D)},(∀x∈xs,qO k x)->oc k xs
 | [],_=>by simp only[oc]
 |x::xs,h=>by
  simp only[oc];exact⟨h x (by simp),bA λy a=>h y (by simp[a])⟩
theorem bB:∀{d vs:List D},qO k d->qO k vs->qO k (d++vs)
 | [],_,_,c=>c
 |a::d,vs,b,c=>by
  simp only[qO,yE]at b⊢;exact⟨b.1,bB b.2 c⟩
theorem bz:∀b vs:List D,qY (b++vs)=qY b++qY vs
 | [],_=>by simp[qY]
 |a::b,vs=>by simp[qY,bz b vs]
theorem WD:∀{xs:List (List D)},(∀x∈xs,qY x=x)->p5 xs=xs
 | [],_=>by simp only[p5]
 |x::xs,h=>by
  simp only[p5];rw[h x (by simp),WD λy a=>h y (by simp[a])]
def wr(cs:List D):Prop:=cs.all D.flat=true/\qO 0 cs/\qY cs=cs
def wr.append{c vs:List D}(a:wr c)(b:wr vs):wr (c++vs):=
 ⟨by rw[uP,a.1,b.1];rfl,bB a.2.1 b.2.1,by rw[bz,a.2.2,b.2.2]⟩
def wr.nil:wr []:=⟨rfl,by simp only[qO],by simp only[qY]⟩
theorem Wo{r:TypeId->List D->Prop}(hr:∀t cs,r t cs->wr cs):∀(fs:List Field)(cs:List D),Hq P r fs cs->wr cs
 | [],cs,h=>by
  simp only[Hq]at h;subst h;exact wr.nil
 |f::fs,cs,h=>by
  obtain⟨c,cs',rfl,h1,a⟩:=h;exact wr.append (hr _ _ h1) (Wo hr fs cs' a)
theorem oL:∀(k:Nat)(t:TypeId)(cs:List D),Shp P k t cs->wr cs
 |0,_,_,h=>by simp only[Shp]at h
 |k+1,t,cs,h=>by
  simp only[Shp]at h;split at h
  ·obtain⟨b,rfl⟩:=h;exact⟨rfl,by simp[qO,below],by simp[qY,qD]⟩
  ·obtain⟨n,rfl,_⟩:=h;exact⟨rfl,by simp[qO,below],by simp[qY,qD]⟩
  ·obtain⟨s,rfl,_⟩:=h;exact⟨rfl,by simp[qO,below],by simp[qY,qD]⟩
  ·rcases h with rfl| ⟨xs,rfl,_,a⟩
   ·exact⟨rfl,by simp[qO,below],by simp[qY,qD]⟩
   ·refine⟨rfl,?_,?_⟩
    ·simp only[qO,below,zV];exact bA λx h=>(oL k _ x (a x h)).2.1
    ·simp only[qY,qD];rw[WD λx h=>(oL k _ x (a x h)).2.2]
  ·exact Wo (λt cs=>oL k t cs) _ _ h
  ·exact h.elim
end
def Ext(h h':Heap):Prop:=h.next<=h'.next/\∀i,i<h.next->h'.at' i=h.at' i
def But(S:Nat->Prop)(h h':Heap):Prop:=h.next<=h'.next/\∀i,i<h.next->¬S i->h'.at' i=h.at' i
def Ext.refl(h:Heap):Ext h h:=⟨zD _,λ_ _=>rfl⟩
def Ext.trans{h1 c h3:Heap}(a:Ext h1 c)(b:Ext c h3):Ext h1 h3:=⟨zf a.1 b.1,λi d=>by rw[b.2 i (by have:=a.1;omega),a.2 i d]⟩
variable{id k i nid sz n:Nat}{S S':Nat->Prop}{K Q:D->Heap->Prop}{args cs:List D}{h h' h0:Heap}{xs ys X:List (List D)}{t:TypeId}{tk:Tk}{α:Type}{l:Loc}{P:Program}{f:FuncId}{M:Imm}{ρ:Ren}{v:Value}{ev:Operand->D}{d z x:D}{o:Oper}{bk:Nat->Bool}{fr:Frm}{b:Bool}
def Ext.new{h h1:Heap}(a:Ext h h1)(hid:h.next<=id)(o:Obj):Ext h (h1.new id o):=⟨zf a.1 (sQ _ _ _),λi b=>by rw[zi ow,a.2 i b]⟩
def Ext.set{h h1:Heap}(a:Ext h h1)(hid:h.next<=id)(o:Obj):Ext h (h1.set id o):=⟨a.1,λi b=>by rw[zY ow,a.2 i b]⟩
def Ext.del{h h1:Heap}(a:Ext h h1)(hid:h.next<=id):Ext h (h1.del id):=⟨a.1,λi b=>by rw[wT ow,a.2 i b]⟩
def Ext.but{h h1:Heap}(a:Ext h h1)(S:Nat->Prop):But S h h1:=⟨a.1,λi b _=>a.2 i b⟩
def But.refl(S:Nat->Prop)(h:Heap):But S h h:=⟨zD _,λ_ _ _=>rfl⟩
def But.trans{h1 c h3:Heap}(a:But S h1 c)(b:But S' c h3)(f:∀i,S' i->S i\/h1.next<=i):But S h1 h3:=
 ⟨zf a.1 b.1,λi e d=>by rw[b.2 i (by have:=a.1;omega) (λh=>(f i h).elim d ow),a.2 i e d]⟩
def But.set{h h1:Heap}(a:But S h h1)(hid:S id\/h.next<=id)(o:Obj):But S h (h1.set id o):=⟨a.1,λi c b=>by rw[zY (λe=>by subst e;exact hid.elim b ow),a.2 i c b]⟩
@[go_sem] theorem ym(h:Heap)(i:Nat)(o:Obj):(h.set i o).next=h.next:=(rfl)
@[go_sem] theorem MH(h:Heap)(i:Nat):(h.del i).next=h.next:=(rfl)
def za(h:Heap)(o:Obj):(h.new h.next o).next=h.next+1:=by simp[Heap.new]
def qL(h:Heap)(a:h.next<=i)(o:Obj):(h.new i o).next=i+1:=by simp[Heap.new];omega
section
variable{P:Program}{g:Cfg}{n:Nat}{ro:Option Nat}{Q:Exit->Frm->Heap->Prop}{fr:Frm}{h:Heap}
def PP(ro:Option Nat)(h:Heap):Prop:=
 match ro with
 |none=>True
 |some id=>∃r,h.at' id=some (.loop r)
@[go_sem ↓] theorem Ct:PP none h=True:=(rfl)
@[go_sem ↓] theorem zMM(f:FuncId)(a c args:List D)(K:D->Heap->Prop):VFn P (.fn (.func f) a c) args h K=zE P f (a++args++c) h K:=(rfl)
@[go_sem ↓] theorem Fc(f:Operand)(ps:Array Tmp)(asg body:Code):vwp P g n ro (.rangeFunc f ps asg body) Q fr h =
  (PP ro h/\VFn P (wE fr f) [.yld h.next] (h.new h.next (.loop ⟨.ready,none,fr,ps,asg,body,n⟩)) λ_ h'=>∃r,h'.at' h.next=some (.loop r)/\r.st≠ .busy/\Wb r.pending Q fr (h'.del h.next)):=by
 cases ro<;>simp only[vwp,PP]
def pG:Wb none Q fr h=Q .normal fr h:=(rfl)
def bg:Wb (some .ret) Q fr h=Q .ret fr h:=(rfl)
@[go_sem ↓] theorem zBb(t:Tmp)(ts:List Tmp)(d:D)(ds:List D):ZL fr (t::ts) (d::ds)=ZL (nf fr (some t) d) ts ds:=(rfl)
@[go_sem ↓] theorem zGj:ZL fr [] []=fr:=(rfl)
def pL(K:D->Heap->Prop)(id:Nat)(e:Exit)(_:Frm)(h2:Heap):Prop:=∃L2,h2.at' id=some (.loop L2)/\U3 K id L2 e h2
def sG{L:LRec}(a:h.at' id=some (.loop L))(b:K (.bool true) (h.set id (.loop { L with st:=.ready,pending:=none }))):pL K id .normal fr h:=⟨L,a,b⟩
def ZI{L:LRec}(a:h.at' id=some (.loop L))(b:K (.bool false) (h.set id (.loop { L with st:=.done,pending:=some .ret }))):pL K id .ret fr h:=⟨L,a,b⟩
def uS.round(f:P.follows .mixedOrders=true){b:Array Tmp}{a body:Code}(m:h.at' id=some (.loop ⟨.ready,none,fr,b,a,body,n⟩))(d:args.length=b.size)
  (i:b.toList.all (λt=>decide (t<n))=true) (k:sd P g n a=true) (l:sd P g n body=true)
  (o:vwp P g n (some id) a (cW (λc h1=>h1.at' id=some (.loop ⟨.ready,none,fr,b,a,body,n⟩)/\vwp P g n (some id) body (pL K id) c (h1.set id (.loop ⟨.busy,none,fr,b,a,body,n⟩))) (λ_ _ _=>False)) (ZL fr b.toList args) h):uS P id args h K:=by
 refine uS.of_round (g:=g) f m d i k l (rT a (λe c h1 j=> ?_) _ _ o);cases e with
 |normal=>exact⟨_,j.1,rfl,j.2⟩
 |_=>exact j.elim
structure Yld(P:Program)(id:Nat)(len:Nat)(el:Nat->List D)(Y:Nat->(Nat->Prop)->Heap->Prop)(Z:(Nat->Prop)->Heap->Prop):Prop where
 here:∀k S h,Y k S h->∀i,S i->i<h.next
 loc:∀k S h h',Y k S h->h.next<=h'.next->(∀i,S i->h'.at' i=h.at' i)->Y k S h'
 hereZ:∀S h,Z S h->∀i,S i->i<h.next
 locZ:∀S h h',Z S h->h.next<=h'.next->(∀i,S i->h'.at' i=h.at' i)->Z S h'
 go:∀k S h,k<len->Y k S h->uS P id (el k) h λr h'=>∃S',(∀i,S' i->S i\/h.next<=i)/\But S h h'/\((r=.bool true/\Y (k+1) S' h')\/(r=.bool false/\Z S' h'))
variable{h:Heap}
def Yld.ext{id len:Nat}{el:Nat->List D}{Y:Nat->(Nat->Prop)->Heap->Prop}{Z:(Nat->Prop)->Heap->Prop}(y:Yld P id len el Y Z)(b:Y k S h)(a:Ext h h'):Y k S h':=
 y.loc k S h h' b a.1 λi c=>a.2 i (y.here k S h b i c)
end
section
variable{P:Program}{sz:Nat}
def tE(a:∀x∈xs,x.length=sz):xs.flatten.length=xs.length*sz:=by
 induction xs with
 |nil=>simp
 |cons x xs c=>rw[yS,zR,a x (by simp),c (λy b=>a y (by simp[b])),zm,qf];omega
theorem XH:∀{xs:List (List D)}(_:∀x∈xs,x.length=sz){i:Nat}{x:List D}(_:xs[i]? =some x),(xs.flatten.drop (i*sz)).take sz=x
 | [],_,i,x,h=>by simp at h
 |y::xs,a,0,x,h=>by
  simp only[wK,uD]at h;subst h;rw[sZ,wb,yS,wQ (by rw[a y (by simp)];exact zD _),yV (by rw[a y (by simp)];exact zD _)]
 |y::xs,a,i+1,x,h=>by
  simp only[we]at h;have c:=a y (by simp);rw[yS,qf,gQ,j5,th ow,yc,show sz+i*sz-y.length=i*sz by omega];exact XH (λz b=>a z (by simp[b])) h
theorem Nv:∀{xs:List (List D)}(_:∀x∈xs,x.length=sz){i:Nat}(_:i<xs.length){x:List D}(_:x.length=sz),wo xs.flatten x (i*sz)=(xs.set i x).flatten
 | [],_,i,h,x,_=>by simp at h
 |y::xs,a,0,h,x,b=>by
  have d:=a y (by simp);simp only[wo,sZ,kD,yc,yZ,yS,t9];rw[j5,th ow,yc,show x.length-y.length=0 by omega,wb]
 |y::xs,a,i+1,h,x,b=>by
  have d:=a y (by simp);have c:=Nv (xs:=xs) (λz e=>a z (zt _ e)) (i:=i) (by simpa using h) b;simp only[wo]at c⊢;rw[yS,lh,yS,<-c,qf,gQ (i*sz) sz,List.take_append,yV ow,show sz+i*sz-y.length=i*sz by omega,j5,th ow,yc,show sz+i*sz+x.length-y.length=i*sz+x.length by omega];simp
def qj{t e:TypeId}{id len:Nat}(a:tG P t=some e)(c:szT P e=sz){k:IntKind}(b:i<len):yt P t (.rs id sz 0 len) (.int k (i:Int))=some (.ptr id (i*sz)):=by
 simp[yt,a,c,b]
variable{h:Heap}
def nM{t e:TypeId}{id off len:Nat}(a:P.underlying t=some (.slice e)):mC P t (.rs id sz off len) h=some (.int .i64 len):=by simp[mC,a]
def nN(c:∀x∈xs,x.length=sz)(h0:0<sz){x:List D}(b:xs[i]? =some x):yW true sz xs.flatten (i*sz)=some (.agg x):=by
 have a:i<xs.length:=(zK.1 b).1;have h1:i*sz+sz<=xs.length*sz:=by rw[<-qf];exact yv _ a
 simp only[yW,qS];rw[iq ow,ip (by rw[tE c];exact h1),XH c b]
def cZ(hr:h.at' id=some (.row xs.flatten))(c:∀x∈xs,x.length=sz)(h0:0<sz)(d:szT P t=sz)(a:i<xs.length){x:List D}(b:x.length=sz)(hf:x.all D.flat=true):
  yX P t (.ptr id (i*sz)) (.agg x) h=some (h.set id (.row (xs.set i x).flatten)):=by
 have h1:i*sz+sz<=xs.length*sz:=by rw[<-qf];exact yv _ a
 simp only[yX,hr,D.cells,d,b];rw[ip,Nv c a b];simp only[zF,zO,ne_eq];refine⟨⟨⟨by omega,trivial⟩,by rw[tE c];exact h1⟩,hf⟩
def o6(a:∀x∈xs,x.length=sz):wR sz xs.length xs.flatten=xs:=by
 have:=mK sz xs [] 0 a;simpa [wR]using this
def l8{t e:TypeId}(c:tG P t=some e)(g:ZW P e=true)(f:szT P e=sz)(h0:0<sz)(a:∀x∈xs,x.length=sz)(b:xs.length*uE P e<=lim)(d:xs.length<=lim):
  qg P false nid t (.sl sz [] .full) (.sl sz xs tk) h=if xs.length=0 then some (.sl sz [] .full,h)else some (.sl sz xs (.own nid),h.new nid .tok):=by
 simp only[qg,c,g,f,QU,qS,tE a,tA _ h0,tp];rw[ip (by simp only[yo,yZ,zF,zO];exact⟨⟨trivial,b⟩,d⟩)];simp only[zl,yy,o6 a,yc]
def oX{t e:TypeId}(b:tG P t=some e)(g:ZW P e=true)(d:szT P e=sz)(h0:0<sz)(f:∀x∈xs,x.length=sz)(a:xs.length*uE P e<=lim)(c:xs.length<=lim):
  qg P true nid t (.sl sz [] .full) (.sl sz xs tk) h=if xs.length=0 then some (.sl sz [] .full,h)else some (.rs nid sz 0 xs.length,h.new nid (og P e xs.flatten)):=by
 simp only[qg,b,g,d,QU,qS,tE f,tA _ h0,tp];rw[ip (by simp only[yo,yZ,zF,zO];exact⟨⟨trivial,a⟩,c⟩)];simp only[yo,yZ,List.flatten_nil,yc]
def Ve{e:TypeId}(a:P.underlying e=some (.int .i64)):og P e cs=.row cs:=by simp[og,a]
def pH{e:TypeId}{fs:Array Field}(a:P.underlying e=some (.struct fs)):og P e cs=.row cs:=by simp[og,a]
end
open Go.RowKit (Below)
def Xc(W:World)(b:Nat)(c':Array Value):Go.Sort.mapBlock W b (λ_=>c')=W.setRow b c':=by
 unfold Go.Sort.mapBlock World.setRow;congr 1
section
variable{w0:Base}{G:List Nat}{M:Imm}{ρ:Ren}{h:Heap}{w:World}
theorem Sim.ahead(a:Sim w0 G M ρ h w):∀q:Nat,Sim w0 G M ρ h (Go.Sort.ahead w q)
 |0=>a
 |q+1=>by
  have:=(Sim.ahead a q).drew
  rwa [Go.Sort.ahead_drew]at this
def Sim.putRow [Inhabited α]{enc:α->Value}{dd:α->D}(r:∀x,(dd x).flat=true)(B:Sim w0 G M ρ h w){pre post:List D}{xs ys:List α}(z:h.at' id=some (.row (pre++xs.map dd++post)))(A:ρ id=some l)
  (j:ys.length=xs.length) (J:∀y∈ys,rel M ρ (dd y) (enc y)):Sim w0 G M ρ (h.set id (.row (pre++ys.map dd++post))) (Go.Sort.putRow enc w l.blk pre.length ys.toArray):=by
 obtain⟨N,h1,_,hM,c,e,C,H,p,a⟩:=B.live id _ z;rw[A]at h1;cases h1;have F:(pre++xs.map dd++post).length=pre.length+xs.length+post.length:=by simp;omega
 have o:(pre++ys.map dd++post).length=pre.length+xs.length+post.length:=by simp[j];omega
 unfold Go.Sort.putRow;rw[Go.Sort.mapBlock_congr w l.blk (Go.Sort.putCells enc pre.length ys.toArray) (λ_=>Go.Sort.putCells enc pre.length ys.toArray c) (λK e1 E h1=>by rw[C]at h1;cases h1;rfl),Xc];have m:(Go.Sort.putCells enc pre.length ys.toArray c).size=c.size:=by simp[Go.Sort.putCells]
 refine B.setRow z A C m (by rw[m,o,<-F];exact p) (wW (by
  have e:(Go.Sort.putCells enc pre.length ys.toArray c).toList.length=c.size:=by rw[yQ];exact m
  rw[yR,e];omega) λi d v b s=> ?_) ?_
 ·have k:i<(pre++ys.map dd++post).length:=(zK.1 b).1;rw[yF,ip k,qn]at s;simp only[Go.Sort.putCells,Array.getElem?_mapIdx]at s;obtain⟨v0,t,rfl⟩:=zh.1 s;by_cases f:pre.length<=i/\i<pre.length+ys.toArray.size
  ·rw[ip f];have n:i-pre.length<ys.length:=by have:=f.2;simp only[qy]at this;omega
   rw[qh,yT f.1,yg (by simpa using n),zj,zB n]at b;cases b;rw[uH ys.toArray (i-pre.length) (by simpa using n)];exact J _ (by simp)
  ·rw[iq f];have q:(pre++xs.map dd++post)[i]? =some d:=by
    simp only[qy,not_and,Nat.not_lt]at f;by_cases I:i<pre.length
    ·rw[qh,yg I]at b⊢;exact b
    ·have L:=f ow;rw[yT (by simp;omega)]at b⊢;simpa [j]using b
   obtain⟨_,u,e1,e2⟩:=a i d q;rw[t]at e1;cases e1;exact e2
 ·rw[uP,uP];have h1:pre.all D.flat=true:=zo.2 λd b=>by
   obtain⟨i,g⟩:=yw.1 b;have k:=(zK.1 g).1;exact(a i d (by rw[qh,yg k];exact g)).1
  have h3:post.all D.flat=true:=zo.2 λd b=>by
   obtain⟨i,g⟩:=yw.1 b;exact(a (pre.length+xs.length+i) d (by rw[yT (by simp)];simpa using g)).1
  rw[h1,h3,zo.2 λd b=>by obtain⟨y,_,rfl⟩:=zM.1 b;exact r y];rfl
end
variable{P:Program}{h:Heap}{M:Imm}{sz n:Nat}{Q:D->Heap->Prop}{fr:Frm}
def zE.of_row [Inhabited α]{enc:α->Value}{dd:α->D}(k:∀M ρ x v,rel M ρ (dd x) v->v=enc x)(F:∀x,(dd x).flat=true){xs ys:List α}{m:Nat}{rest:List D}{pre post:List D}
  (Z:pQ P f=true) (p:h.at' id=some (.row (pre++xs.map dd++post))) (h0:0<xs.length) (t:ys.length=xs.length) (hm:m<=xs.length) (hy:∀y∈ys,y∈xs\/∀M ρ,rel M ρ (dd y) (enc y))
  (X:∀(b o cap:Nat)(w:World)(M:Imm)(ρ:Ren)(C:List Value),Go.Sort.Holds enc w b o xs.toArray->xs.length<=cap->cap<=9223372036854775807->wJ M ρ rest C->
   Calls P f (.slice (some ⟨b,o,none⟩) xs.length cap::C).toArray w λe V=>e=.returned (.slice (some ⟨b,o,none⟩) m cap)/\∃q,V=Go.Sort.putRow enc (Go.Sort.ahead w q) b o ys.toArray):
  zE P f (.rs id 1 pre.length xs.length::rest) h λd h'=>d=.rs id 1 pre.length m/\h'=h.set id (.row (pre++ys.map dd++post)):=by
 refine⟨Z,λw0 G M ρ w C ad S H hr=> ?_⟩;simp only[wJ]at hr;obtain⟨v,B,N,T,r⟩:=hr;simp only[rel]at T;obtain⟨_,R,l,cap,o,K,rfl,⟨E,s⟩,L,u⟩:=T;have u:o=pre.length:=by
  rcases u with hz|u
  ·omega
  ·exact u
 subst u;obtain⟨l',h1,J,hM,c,e,U,ag,Y,g⟩:=S.live id _ p;rw[K]at h1;cases h1;have a:∀(j:Nat)(n:j<xs.length),∃v,c[pre.length+j]? =some v/\rel M ρ (dd xs[j]) v:=λj n=>by
  obtain⟨_,v,e1,e2⟩:=g (pre.length+j) (dd xs[j]) (by
   rw[qh,yT ow,uR,yg (by simpa using n),zj,zB n];rfl)
  exact⟨v,e1,e2⟩
 have i:Go.Sort.Holds enc w l.blk pre.length xs.toArray:=λj n=>by
  have I:j<xs.length:=by simpa using n
  obtain⟨v,e1,e2⟩:=a j I;refine⟨?_,by simp[World.frozen?,U]⟩;rw[uH xs.toArray j n];simp only[World.cell?,U,sC,zl,yy,e1,k _ _ _ _ e2,List.getElem_toArray]
 have A:C=(.slice (some ⟨l.blk,pre.length,none⟩) xs.length cap::B).toArray:=sS (by simpa using N);rw[A];refine(X l.blk pre.length cap w M ρ B i E (by simpa [maxLen]using s) r).mono λe V hq=> ?_;obtain⟨rfl,q,rfl⟩:=hq;have z:∀y∈ys,rel M ρ (dd y) (enc y):=λy Q=>by
  rcases hy y Q with O|O
  ·obtain⟨j,n,rfl⟩:=yD.1 O;obtain⟨v,_,e2⟩:=a j n;have:=k _ _ _ _ e2;rw[<-this];exact e2
  ·exact O M ρ
 have W:=(S.ahead q).putRow F (enc:=enc) p K t z;refine⟨_,M,ρ,.rs id 1 pre.length m,_,rfl,MLe.refl _,RLe.refl _,W,H,?_,rfl,rfl⟩;simp only[rel];exact⟨by omega,by omega,l,cap,pre.length,K,rfl,⟨by omega,s⟩,L,.inr rfl⟩
def zET{x:Int}(h:rel M ρ (.int .i64 x) v):v=.int .i64 x:=by
 simp only[rel]at h;exact h.1
abbrev Way:=Nat×Fl×Bool
def onO(o:Option Oper)(k:Oper->Prop):Prop:=
 match o with
 |some o=>k o
 |none=>False
def WC(P:Program)(h0:Heap)(o:Op)(ev:Operand->D)(k:D->Prop):Prop:=
 match o with
 |.load t a=>onS (lR P t (ev a) h0) k
 |o=>∃d,Hr P h0 o ev d/\k d
def Iv(P:Program)(h0:Heap)(o:Op)(ev:Operand->D)(k:D->Prop):Prop:=(u0 o).isSome=true/\∃S:D->Prop,(∃e,S e)/\Mx P h0 o ev S/\∀d,S d->k d
def Hn(P:Program)(mu:Tmp->Bool)(h0:Heap)(st:Fl)(ops:Array Oper)(o:Oper)(fr:Frm)(h:Heap)(k:D->Heap->Prop):Prop:=
 match uk ops fr o.guard with
 |false=>k rD h
 |true=>match st with
  |.st=>WC P h0 o.op (wE fr) λd=>k d h
  |.sq=>Iv P h0 o.op (wE fr) λd=>k d h
  |.no=>rF P (ar mu o.dst) h.next o.op (wE fr) h k
  |.qu=>rF P (ar mu o.dst) h.next o.op (wE fr) h λd h'=>h'=h/\k d h
  |.al i=>rF P (ar mu o.dst) (h0.next+i) o.op (wE fr) h k
def QW(P:Program)(mu:Tmp->Bool)(h0:Heap)(ops:Array Oper):List Way->(Frm->Heap->Prop)->Frm->Heap->Prop
 | [],K,fr,h=>K fr h
 |w::rest,K,fr,h=>onO ops[w.1]? λo=>Hn P mu h0 w.2.1 ops o fr h λd h'=>(w.2.2=true->HLe h0 h')/\QW P mu h0 ops rest K (nf fr o.dst d) h'
def Vy(bk:Nat->Bool):Bool->List (Nat×Fl)->List Way->Bool
 |_,[],[]=>true
 |fl,x::xs,w::ws=>Nat.beq x.1 w.1&&(match x.2 with
  |.no=>match w.2.1 with
   |.no=>true
   |_=>false
  |.st=>match w.2.1 with
   |.st=>true
   |_=>false
  |.sq=>match w.2.1 with
   |.sq=>true
   |_=>false
  |.qu=>match w.2.1 with
   |.qu=>true
   |_=>false
  |.al i=>match w.2.1 with
   |.al j=>Nat.beq i j
   |_=>false)&&(w.2.2|| !(fl&& !bk x.1))&&Vy bk (fl&& !bk x.1) xs ws
 |_,_,_=>false
section
variable{P:Program}{g:Cfg}{n:Nat}{ro:Option Nat}{Q:Exit->Frm->Heap->Prop}{fr:Frm}{h:Heap}{mu:Tmp->Bool}{h0:Heap}
def I0{a:Operand}(c:lR P t (ev a) h0=some d):Hr P h0 (.load t a) ev d:=by
 intro h' b;simp only[rF,u0,vop,Mo b c,wB];exact⟨trivial,trivial⟩
def zA8{st:Fl}{ops:Array Oper}{k:D->Heap->Prop}(b:Hn P mu h0 st ops o fr h k):ux P mu h0 st ops o fr h k:=by
 unfold Hn at b;unfold ux;split at b
 ·rename_i c;rw[c];exact b
 ·rename_i c;rw[c];cases st with
  |st=>
   simp only at b⊢;unfold WC at b;split at b
   ·rename_i t a f;rw[f];unfold onS at b;split at b
    ·rename_i d e;exact⟨d,I0 e,b⟩
    ·exact b.elim
   ·exact b
  |_=>exact b
theorem Vw{ops:Array Oper}{K:Frm->Heap->Prop} :∀{l:List (Nat×Fl)}{g:List Way}{fl:Bool}{fr:Frm}{h:Heap},Vy bk fl l g=true->QW P mu h0 ops g K fr h->nk P mu h0 bk ops fl l K fr h
 | [],[],_,fr,h,_,a=>a
 | [],_::_,_,_,_,c,_=>by simp[Vy]at c
 |_::_,[],_,_,_,c,_=>by simp[Vy]at c
 |(i,st)::l,(j,e,b)::g,fl,fr,h,c,a=>by
  simp only[Vy,zF]at c;obtain⟨⟨⟨q,f⟩,m⟩,r⟩:=c;have e1:i=j:=ye q;have e2:st=e:=by
   cases st<;>cases e<;>simp only at f<;>(first|rfl|(cases f;done)|skip)
   rw[ye f]
  subst e1;subst e2;simp only[QW]at a;simp only[nk];unfold onO at a;split at a
  ·rename_i o p;rw[p];refine cY (λd h' k=>⟨λn=>k.1 ?_,Vw r k.2⟩) (zA8 a);cases b with
   |true=>rfl
   |false=>rw[n]at m;simp at m
  ·exact a.elim
def qH(h0:Heap)(c:List Way){l:List Oper}(e:Vy (He P g.mu l.toArray (g.dr id) (YA l 0 [])) ((g.dr id).any (·.2.isSt)) (g.dr id) c=true)(a:Nat.beq (alN (g.dr id)) 0=true)(b:HLe h0 h)
  (d:QW P g.mu h0 l.toArray c (Q .normal) fr h):vwp P g n ro (.region id l.toArray true) Q fr h:=by
 rw[Mr];refine⟨h0,b,?_⟩;rw[aM (ye a)];exact Vw e d
def pb:Nat->List (Nat×Fl)->List Oper->Bool
 |_,[],[]=>true
 |k,x::xs,_::os=>Nat.beq x.1 k&&x.2.isNo&&pb (k+1) xs os
 |_,_,_=>false
variable{h0:Heap}
theorem Vq{ops:Array Oper}{K:Frm->Heap->Prop} :∀{l:List (Nat×Fl)}{c pre:List Oper}{fr:Frm}{h:Heap},ops.toList=pre++c->pb pre.length l c=true->WT P mu ops c K fr h->nk P mu h0 bk ops false l K fr h
 | [],[],_,fr,h,_,_,a=>a
 | [],_::_,_,_,_,_,b,_=>by simp[pb]at b
 |_::_,[],_,_,_,_,b,_=>by simp[pb]at b
 |(i,st)::l,o::c,pre,fr,h,j,b,a=>by
  simp only[pb,zF]at b;obtain⟨⟨p,q⟩,r⟩:=b;have e1:i=pre.length:=ye p;subst e1;have m:ops[pre.length]? =some o:=by rw[<-qn,j];simp
  have g:st=.no:=by cases st<;>simp[Fl.isNo]at q<;>rfl
  subst g;simp only[nk,m,wV];simp only[WT]at a;have k:∀fr h,WT P mu ops c K fr h->nk P mu h0 bk ops false l K fr h:=λfr h a=>Vq (pre:=pre++ [o]) (by simp[j]) (by simpa using r) a;unfold ux;split at a
  ·rename_i f;rw[f];exact fQ (λd h' n=>⟨λe=>(by cases e),k _ _ n⟩) a
  ·rename_i f;rw[f];exact⟨λe=>(by cases e),k _ _ a⟩
theorem Zw:∀{l:List (Nat×Fl)}{c:List Oper}{k:Nat},pb k l c=true->l.any (·.2.isSt)=false/\alN l=0
 | [],[],_,_=>⟨rfl,rfl⟩
 | [],_::_,_,a=>by simp[pb]at a
 |_::_,[],_,a=>by simp[pb]at a
 |(i,st)::l,o::c,k,a=>by
  simp only[pb,zF]at a;obtain⟨h1,d⟩:=Zw a.2;have b:st=.no:=by have:=a.1.2;cases st<;>simp[Fl.isNo]at this<;>rfl
  subst b;exact⟨by rw[cn,h1];rfl,by simp only[alN,d]⟩
def yI{l:List Oper}(a:pb 0 (g.dr id) l=true)(c:WT P g.mu l.toArray l (Q .normal) fr h):vwp P g n ro (.region id l.toArray true) Q fr h:=by
 obtain⟨h1,b⟩:=Zw a;rw[Mr];refine⟨⟨0,λ_=>none⟩,λi d e=>(by cases e),?_⟩;rw[aM b,h1];exact Vq (pre:=[]) rfl a c
end
section
variable{P:Program}{mu:Tmp->Bool}{h0:Heap}{ops:Array Oper}{l:List Oper}{K:Frm->Heap->Prop}{k:D->Heap->Prop}{fr:Frm}{h:Heap}{dst:Option Tmp}{ty:TypeId}{pos:String}{after:Array Edge}{rest:List Way}
@[congr] theorem zGT{o o':Option Oper}{k:Oper->Prop}(h:o=o'):onO o k=onO o' k:=by rw[h]
@[go_sem ↓] theorem zHD:QW P mu h0 ops [] K fr h=K fr h:=(rfl)
@[go_sem ↓] theorem zBx(w:Way):QW P mu h0 l.toArray (w::rest) K fr h=onO l[w.1]? λo=>Hn P mu h0 w.2.1 l.toArray o fr h λd h'=>(w.2.2=true->HLe h0 h')/\QW P mu h0 l.toArray rest K (nf fr o.dst d) h':=by
 simp only[QW,t5]
@[go_sem ↓] theorem zHn(o:Oper)(k:Oper->Prop):onO (some o) k=k o:=(rfl)
@[go_sem ↓] theorem zMD(op:Op):Hn P mu h0 .no ops ⟨dst,op,ty,pos,after,none⟩ fr h k=rF P (ar mu dst) h.next op (wE fr) h k:=(rfl)
@[go_sem ↓] theorem zMF(op:Op):Hn P mu h0 .st ops ⟨dst,op,ty,pos,after,none⟩ fr h k=WC P h0 op (wE fr) λd=>k d h:=(rfl)
@[go_sem ↓] theorem zME(op:Op):Hn P mu h0 .sq ops ⟨dst,op,ty,pos,after,none⟩ fr h k=Iv P h0 op (wE fr) λd=>k d h:=(rfl)
@[go_sem ↓] theorem zAu(t:TypeId)(a:Operand)(k:D->Prop):WC P h0 (.load t a) (wE fr) k=onS (lR P t (wE fr a) h0) k:=(rfl)
@[go_sem ↓] theorem zBz(st:Fl)(op:Op)(j:Nat)(b:Bool):Hn P mu h0 st ops ⟨dst,op,ty,pos,after,some (j,b)⟩ fr h k =
  gif (uk ops fr (some (j,b))) (Hn P mu h0 st ops ⟨dst,op,ty,pos,after,none⟩ fr h k) (k rD h):=by
 unfold Hn gif;cases uk ops fr (some (j,b))<;>rfl
end
def Jr:D->Bool
 |.nilsl=>true
 |_=>false
section
variable{P:Program}{t e:TypeId}{c:Bool}{sz:Nat}{xs:List (List D)}{d:D}
def tI(a:yi sz xs d)(b:P.underlying t=some (.slice e)):jI P .eql t c d .nilsl=some (.bool (Jr d)):=by
 rcases a with⟨rfl,rfl⟩ | ⟨tk,rfl⟩ <;>simp[jI,FZ,oe,veq,b,Jr]
def P4{id off len:Nat}(a:P.underlying t=some (.slice e)):jI P .eql t c (.rs id sz off len) .nilsl=some (.bool false):=by
 simp[jI,FZ,oe,veq,a]
variable{h:Heap}
def wc(c:tG P t=some e)(f:tJ P e=some z)(d:szT P e=sz)(b:z.notTuple=true)(a:z.cells.length=sz)(h0:0<sz):yB P false nid t 0 [] h=some (.sl sz [] .full,h):=by
 simp only[yB,c,f,d];rw[ip (by simp[b,a,h0])];simp[ur,wR]
end
variable{sz k n:Nat}{xs:List (List D)}{d:D}{K Q:D->Heap->Prop}{h h0:Heap}{t:TypeId}{l:Loc}{P:Program}{fr:Frm}
def VC(a:yi sz xs d):(Jr d=true/\d=.nilsl/\xs= [])\/(Jr d=false/\∃tk,d=.sl sz xs tk):=by
 rcases a with⟨rfl,rfl⟩ | ⟨tk,rfl⟩
 ·exact .inl ⟨rfl,rfl,rfl⟩
 ·exact .inr ⟨rfl,tk,rfl⟩
mutual
theorem ah(id:Nat)(cs:List D):∀d:D,below 0 d->frz id cs d=d
 |.bool _,_=>rfl
 |.int _ _,_=>rfl
 |.str _,_=>rfl
 |.nilptr,_=>rfl
 |.ptr _ _,h=>absurd h (yq _)
 |.iptr b off,h=>by simp only[frz,pv id cs b h]
 |.nilsl,_=>rfl
 |.sl sz xs tk,h=>by
  simp only[below]at h;cases tk with
  |own t=>exact absurd h.2 (yq _)
  |_=>simp only[frz,XK id cs xs h.1]
 |.rs _ _ _ _,h=>absurd h (yq _)
 |.nilmap,_=>rfl
 |.map _,h=>absurd h (yq _)
 |.fn f a c,h=>by simp only[frz,pv id cs a h.1,pv id cs c h.2]
 |.yld _,h=>absurd h (yq _)
 |.nilfn,_=>rfl
 |.agg b,h=>by simp only[frz,pv id cs b h]
 |.tuple b,h=>by simp only[frz,pv id cs b h]
 |.iface t d,h=>by simp only[frz,ah id cs d h]
 |.niliface,_=>rfl
theorem pv(id:Nat)(cs:List D):∀ds:List D,qO 0 ds->af id cs ds=ds
 | [],_=>rfl
 |d::ds,h=>by simp only[af,ah id cs d h.1,pv id cs ds h.2]
theorem XK(id:Nat)(cs:List D):∀xs:List (List D),oc 0 xs->Gq id cs xs=xs
 | [],_=>rfl
 |x::xs,h=>by simp only[Gq,pv id cs x h.1,XK id cs xs h.2]
end
def XM{id sz len:Nat}(a:∀x∈xs,x.length=sz)(c:xs.length=len)(b:cs=xs.flatten):frz id cs (.rs id sz 0 len)=.sl sz xs .no:=by
 subst b c;simp only[frz];rw[ip ⟨trivial,by rw[tE a];omega⟩,wb,yV (by rw[tE a];omega),o6 a]
def Heap.Ok(h:Heap):Prop:=∀i,h.next<=i->h.at' i=none
def zE.known(e:pQ P f=true)(j:qO h.next args->h.Ok->zE P f args h Q):zE P f args h Q:=by
 refine⟨e,λw0 G M ρ w n b d a hr=>(j (nG a _ _ hr) λi g=> ?_).2 w0 G M ρ w n b d a hr⟩;cases k:h.at' i with
 |none=>rfl
 |some m=>
  obtain⟨l,c,_⟩:=d.live i m k;rw[a i g]at c;cases c
def Ext.hle(a:h.Ok)(b:Ext h h'):HLe h h':=λi d e=>by
 by_cases c:i<h.next
 ·rw[b.2 i c];exact e
 ·rw[a i ow]at e;cases e
def xU{Q:D->Prop}(c:pQ P f=true)(e:h.Ok->zE P f args h λd h'=>Ext h h'/\below h.next d/\Q d):zE P f args h λd h'=>h'=h/\Q d:=
 zE.known c λ_ a=>zE.gc (λ_=>(e a).mono λ_ _ b=>⟨b.1.hle a,b.2.1,b.2.2⟩) c
def yj(a:∀x∈xs,wr x)(tk:Tk):qD (.sl sz xs tk)=.sl sz xs .no/\below 0 (.sl sz xs .no):=by
 have b:p5 xs=xs:=WD λx h=>(a x h).2.2;simp only[qD,b,below,zV,zT];exact bA λx h=>(a x h).2.1
section
variable{P:Program}{k:Nat}{t e:TypeId}{c:List D}
def py{q:IntKind}(a:P.underlying t=some (.int q))(h:Shp P k t c):∃n,c= [.int q n]/\fits q n:=by
 cases k with
 |zero=>simp only[Shp]at h
 |succ k=>simpa only[Shp,a]using h
def MX(a:P.underlying t=some .bool)(h:Shp P k t c):∃b,c= [.bool b]:=by
 cases k with
 |zero=>simp only[Shp]at h
 |succ k=>simpa only[Shp,a]using h
def rQ(a:P.underlying t=some .string)(h:Shp P k t c):∃s,c= [.str s]/\s.length<=1048576:=by
 cases k with
 |zero=>simp only[Shp]at h
 |succ k=>simpa only[Shp,a]using h
def dc(f:P.underlying t=some (.slice e))(b:szT P e=sz)(h:Shp P k t c):∃d xs j,c= [d]/\j<k/\yi sz xs d/\(d=.nilsl\/d=.sl sz xs .no)/\xs.length<=1048576/\∀x∈xs,Shp P j e x:=by
 cases k with
 |zero=>simp only[Shp]at h
 |succ k=>
  simp only[Shp,f]at h;rcases h with rfl| ⟨xs,rfl,h1,a⟩
  ·exact⟨_,[],k,rfl,sv _,yi.nil,.inl rfl,by simp,by simp⟩
  ·have:P.cellsOf e=sz:=b;rw[this];exact⟨_,xs,k,rfl,sv _,yi.mk _,.inr rfl,h1,a⟩
def pI{fs:Array Field}(a:P.underlying t=some (.struct fs))(h:Shp P k t c):∃j,j<k/\Hq P (Shp P j) fs.toList c:=by
 cases k with
 |zero=>simp only[Shp]at h
 |succ k=>exact⟨k,sv _,by simpa only[Shp,a]using h⟩
def qA{r:TypeId->List D->Prop}{f:Field}{fs:List Field}(h:Hq P r (f::fs) cs):∃c cs',cs=c++cs'/\r f.type c/\Hq P r fs cs':=h
def mO{r:TypeId->List D->Prop}(h:Hq P r [] cs):cs= []:=h
end
def faO(P:Program)(k:Nat->D):Option (Nat×TypeId)->Option D
 |some (off,ft)=>if szT P ft=0 then none else some (k off)
 |none=>none
section
variable{P:Program}
@[go_sem] theorem Hl(s:TypeId)(id o f:Nat):p7 P s (.ptr id o) f=faO P (λoff=>.ptr id (o+off)) (qV P s f):=by
 unfold p7 faO;cases qV P s f<;>rfl
@[go_sem] theorem zHV(k:Nat->D)(off:Nat)(ft:TypeId):faO P k (some (off,ft))=if szT P ft=0 then none else some (k off):=(rfl)
variable{t:TypeId}
def yU{id off:Nat}(b:h.at' id=some (.row cs))(e:szT P t=1)(c:off<cs.length)(a:x.cells= [x])(hf:x.flat=true):yX P t (.ptr id off) x h=some (h.set id (.row (cs.set off x))):=by
 have d:wo cs [x] off=cs.set off x:=by
  simp only[wo,t6];rw[List.set_eq_take_append_cons_drop,ip c];simp
 simp only[yX,b,e,a,d];rw[ip];simp[hf];omega
end
@[go_sem] theorem zHb(h:Heap):HLe h h=True:=eq_true λ_ _ e=>e
attribute [go_sem] true_and and_true true_implies implies_true false_implies
variable{P:Program}{k:Nat}{t:TypeId}
def Wi{t e:TypeId}(a:yi sz xs d)(b:tG P t=some e)(f:szT P e=sz){k:IntKind}{n:Int}(h0:0<=n){x:List D}(c:xs[n.toNat]? =some x):yt P t d (.int k n)=some (.iptr x 0):=by
 obtain⟨m,rfl⟩:=tM h0;exact yn a b f (by simpa using c)
def sR{o:Obj}(c:h.at' i=some o):h.set i o=h:=by
 cases h with
 |mk n a=>
  simp only[Heap.set,Heap.mk.injEq,zT]
  funext j
  by_cases b:j=i
  ·subst b;rw[ip rfl];exact c.symm
  ·rw[iq b]
def gq(h:Heap)(i:Nat)(o a:Obj):(h.new i o).set i a=h.new i a:=by
 simp only[Heap.set,Heap.new,Heap.mk.injEq,zT]
 funext j
 by_cases b:j=i<;>simp[b]
def NF{id off n:Nat}(e:h.at' id=some (.row cs))(k:szT P t=n)(a:yW true n cs off=some x)(hf:cs.all D.flat=true):yX P t (.ptr id off) x h=some h:=by
 simp only[yW,qS]at a;split at a
 ·cases a
 ·rename_i i;split at a
  ·rename_i c;cases a;have f:((cs.drop off).take n).length=n:=by rw[yR,tF];omega
   have j:wo cs ((cs.drop off).take n) off=cs:=by
    simp only[wo,f];rw[qh,<-uN,qP,qP]
   have b:((cs.drop off).take n).all D.flat=true:=zo.2 λd g=>zo.1 hf d (dG (sP g));simp only[yX,e,D.cells,k,f,j];rw[ip (by simp[i,c,b]),sR e]
  ·cases a
def QZ{id off:Nat}(c:h.at' id=some (.row cs))(e:szT P t=1)(b:cs[off]? =some x)(d:x.cells= [x])(hf:cs.all D.flat=true):yX P t (.ptr id off) x h=some h:=by
 have a:=(zK.1 b).1;rw[yU c e a d (zo.1 hf x (zg b))]
 have:cs.set off x=cs:=by
  obtain⟨_,rfl⟩:=zK.1 b;exact gO a
 rw[this,sR c]
def qK{cs cs':List D}(d:szT P t=n)(c:0<n)(b:cs.length=n)(a:cs'.length=n)(hf:cs'.all D.flat=true):yX P t (.ptr id 0) (.agg cs') (h.new id (.row cs))=some (h.new id (.row cs')):=by
 subst a;rw[qp (z8 _ _ _) d b c hf,gq]
def sr:D->Nat->Prop
 |.sl _ _ (.own t),i=>i=t
 |_,_=>False
def rY.app2{t e:TypeId}(o:rY h sz xs d)(n:tG P t=some e)(r:ZW P e=true)(p:szT P e=sz)(h0:0<sz)(a:∀y∈ys,y.length=sz)(k:ys≠[])
  (g:(xs.length+ys.length)*uE P e<=lim) (j:xs.length+ys.length<=lim) (l:∀b h',rY h' sz (xs++ys) b->h.next<=h'.next->(∀i,i<h.next->¬sr d i->h'.at' i=h.at' i)->(∀i,sr b i->h.next<=i)->b.cells= [b]->b.flat=true->K b h'):onR (qg P false h.next t d (.sl sz ys tk) h) K:=by
 have m:0<ys.length:=yA.2 k;simp only[qg,n,r,p,QU,qS,tE a,tA _ h0];rcases o with⟨rfl,rfl⟩ | ⟨q,rfl,h1,s⟩
 ·simp only[tp];rw[iq ow,ip (by simp only[zF,zO];simp only[yo,yZ]at g j;exact⟨g,j⟩)];simp only[zl,yy,o6 a,dA];refine l _ _ (.inr ⟨h.next,by simp,z8 _ _ _,zq (sv _) (j8 _ _)⟩) (sQ _ _ _) (λi c _=>zi ow) (λi c=> ?_) rfl rfl;simp only[sr]at c;omega
 ·simp only[tp];rw[ip (by simp only[zF,zO];exact⟨⟨trivial,g⟩,j⟩)];simp only[h1,zl,yy,o6 a,dA];refine l _ _ (.inr ⟨h.next,rfl,z8 _ _ _,zq (sv _) (j8 _ _)⟩) (sQ (h.del q) _ _) (λi c f=> ?_) (λi c=> ?_) rfl rfl
  ·simp only[sr]at f;rw[zi ow,wT f]
  ·simp only[sr]at c;omega
def BO(n0 sz:Nat)(L:LRec)(ps:List (List D))(k:Nat)(S:Nat->Prop)(h:Heap):Prop:=
 n0+1<h.next/\h.at' (n0+1)=some (.loop L)/\∃d,h.at' n0=some (.row [d])/\rY h sz (ps.take k) d/\∀i,S i↔(i=n0\/i=n0+1\/sr d i)
def rY.tok(c:rY h sz xs d)(a:sr d i):i<h.next/\h.at' i=some .tok:=by
 rcases c with⟨rfl,_⟩ | ⟨t,rfl,h1,b⟩
 ·exact a.elim
 ·simp only[sr]at a;subst a;exact⟨b,h1⟩
def rY.loc(b:rY h sz xs d)(e:h.next<=h'.next)(a:∀i,sr d i->h'.at' i=h.at' i):rY h' sz xs d:=by
 rcases b with h1| ⟨t,rfl,h1,c⟩
 ·exact .inl h1
 ·exact .inr ⟨t,rfl,by rw[a t rfl];exact h1,by omega⟩
def BO.here{e sz:Nat}{L:LRec}(y:BO e sz L X k S h)(i:Nat)(b:S i):i<h.next:=by
 obtain⟨h1,_,d,_,h3,a⟩:=y;rcases(a i).1 b with rfl|rfl|c
 ·omega
 ·omega
 ·exact(h3.tok c).1
def BO.loc{b sz:Nat}{L:LRec}(y:BO b sz L X k S h)(g:h.next<=h'.next)(a:∀i,S i->h'.at' i=h.at' i):BO b sz L X k S h':=by
 obtain⟨h1,c,d,h3,e,h5⟩:=y;exact⟨by omega,by rw[a _ ((h5 _).2 (.inr (.inl rfl)))];exact c,d,by rw[a _ ((h5 _).2 (.inl rfl))];exact h3,e.loc g λi f=>a i ((h5 i).2 (.inr (.inr f))),h5⟩
def Ext.of_but{h h1 c:Heap}(a:Ext h h1)(b:But S h1 c)(f:∀i,S i->h.next<=i):Ext h c:=
 ⟨zf a.1 b.1,λi d=>by rw[b.2 i (by have:=a.1;omega) λe=>by have:=f i e;omega,a.2 i d]⟩
def Fin(sz:Nat)(xs:List (List D))(d:D):Prop:=(d=.nilsl/\xs= [])\/d=.sl sz xs .no
def Fin.isSl(hf:Fin sz xs d):yi sz xs d:=by
 rcases hf with⟨rfl,rfl⟩ |rfl
 ·exact yi.nil
 ·exact yi.mk _
def rY.fin(b:rY h sz xs d)(a:∀x∈xs,wr x):below 0 (qD d)/\Fin sz xs (qD d):=by
 rcases b with⟨rfl,rfl⟩ | ⟨t,rfl,_⟩
 ·exact⟨trivial,.inl ⟨rfl,rfl⟩⟩
 ·rw[(yj a _).1];exact⟨(yj a .no).2,.inr rfl⟩
@[go_sem ↓] theorem zEq(a:Oper)(l m:List Oper):List.append (a::l) m=a::List.append l m:=(rfl)
@[go_sem ↓] theorem zHc(m:List Oper):List.append [] m=m:=(rfl)
@[go_sem ↓] theorem zHg(a:Oper)(l:List Oper):(a::l)[0]? =some a:=(rfl)
@[go_sem ↓] theorem zHf(a:Oper)(l:List Oper)(n:Nat):(a::l)[n+1]? =l[n]? :=(rfl)
def gdB:D->Bool->Bool
 |.bool x,b=>x==b
 |_,_=>false
def zEZ:Option Oper->Frm->Bool->Bool
 |some o,fr,b=>match o.dst with
  |some t=>gdB (fr t) b
  |none=>false
 |none,_,_=>false
@[go_sem ↓] theorem Aw(l:List Oper)(fr:Frm)(j:Nat)(b:Bool):uk l.toArray fr (some (j,b))=zEZ l[j]? fr b:=by
 unfold uk zEZ;simp only[t5];cases l[j]? with
 |none=>rfl
 |some o=>
  simp only[sw];cases o.dst with
  |none=>rfl
  |some t=>
   simp only;cases fr t<;>rfl
@[congr] theorem zBO{o o':Option Oper}(h:o=o'):zEZ o fr b=zEZ o' fr b:=by rw[h]
@[go_sem ↓] theorem zEa(t:Tmp)(op:Op)(ty:TypeId)(pos:String)(after:Array Edge)(gd:Option (Nat×Bool))(fr:Frm)(b:Bool):zEZ (some ⟨some t,op,ty,pos,after,gd⟩) fr b=gdB (fr t) b:=(rfl)
@[go_sem ↓] theorem zHW(x b:Bool):gdB (.bool x) b=(x==b):=(rfl)
@[go_sem ↓] theorem zEY(b:Bool):gdB rD b=false:=(rfl)
@[go_sem] theorem zMl:(true==true)=true:=(rfl)
@[go_sem] theorem zMk:(true==false)=false:=(rfl)
@[go_sem] theorem zMj:(false==true)=false:=(rfl)
@[go_sem] theorem zMi:(false==false)=true:=(rfl)
def fS{g:Cfg}{ro:Option Nat}{c:Code}{K:Frm->Heap->Prop}{Q:Exit->Frm->Heap->Prop}(R:Frm->Heap->Prop)(h1:vwp P g n ro c (cW R λ_ _ _=>False) fr h)(b:∀fr h,R fr h->K fr h):vwp P g n ro c (cW K Q) fr h:=
 rT c (λe fr h a=>by
  cases e with
  |normal=>exact b fr h a
  |_=>exact a.elim) fr h h1
end Go.V
