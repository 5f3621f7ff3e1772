/- Rules of the machine of abstract values, part 1. No condition. -/
import Derived.Test.YtkenagjlanhnmaaGreatDoorW04
set_option linter.all false
set_option maxHeartbeats 8000000
namespace Go.V
open Go.RowKit (Below)
section
variable{H:Type}
mutual
def smallB:DataW H->Bool
 |.lit l=>match l with
  |.string s=>decide (s.length<=1048576)
  |_=>true
 |.nil=>true
 |.ptr _=>true
 |.slice elems _=>decide (elems.length<=1048576)&&rC elems
 |.agg parts=>rC parts
 |.iface _ _=>true
 |.map _=>true
 |.held _=>true
def rC:List (DataW H)->Bool
 | []=>true
 |d::ds=>smallB d&&rC ds
end
theorem jq:∀{ds:List (DataW H)},rC ds=true->∀d∈ds,smallB d=true
 | [],_,_,h=>by cases h
 |d::ds,a,x,b=>by
  simp only[rC,zF]at a;rcases zw.1 b with rfl|b
  ·exact a.1
  ·exact jq a.2 x b
mutual
theorem Zu:∀d:DataW H,smallB d=true->YD d=true
 |.lit l,h=>by
  cases l with
  |string s=>
   simp only[smallB,zO]at h;simp only[YD,zO];unfold lim;omega
  |_=>rfl
 |.nil,_=>rfl
 |.ptr _,_=>rfl
 |.slice a _,h=>by
  simp only[smallB,zF,zO]at h;simp only[YD,zF,zO];exact⟨by unfold lim;omega,lL a h.2⟩
 |.agg parts,h=>by
  simp only[smallB]at h;simp only[YD];exact lL parts h
 |.iface _ _,_=>rfl
 |.map _,_=>rfl
 |.held _,_=>rfl
theorem lL:∀ds:List (DataW H),rC ds=true->jo ds=true
 | [],_=>rfl
 |d::ds,h=>by
  simp only[rC,zF]at h;simp only[jo,zF];exact⟨Zu d h.1,lL ds h.2⟩
end
def Hq(P:Program)(r:TypeId->List D->Prop):List Field->List D->Prop
 | [],cs=>cs= []
 |f::fs,cs=>∃c cs',cs=c++cs'/\r f.type c/\Hq P r fs cs'
def Shp(P:Program):Nat->TypeId->List D->Prop
 |0,_,_=>False
 |k+1,t,cs=>match P.underlying t with
  |some .bool=>∃b,cs= [.bool b]
  |some (.int q)=>∃n,cs= [.int q n]/\fits q n
  |some .string=>∃s,cs= [.str s]/\s.length<=1048576
  |some (.slice e)=>cs= [.nilsl]\/∃xs,cs= [.sl (P.cellsOf e) xs .no]/\xs.length<=1048576/\∀x∈xs,Shp P k e x
  |some (.struct fs)=>Hq P (Shp P k) fs.toList cs
  |_=>False
variable{P:Program}{w:World}{base:Nat}{enc:TypeId×Value->H}{held:Bool}
variable{n:Nat}
theorem Na{r:TypeId->DataW H->Option (List D)}{q:TypeId->List D->Prop}(k:∀t cs x ds,DataW.trod enc P w base (λ_=>true) held n t cs=some x->smallB x.1=true->r t x.1=some ds->q t ds){cs:List Value} :
  ∀(fs:List Field)(off:Nat)(xs:List (DataW H×List MemPlace))(ds:List D),(∀(i:Nat)(f:Field),fs[i]? =some f->DataW.trod enc P w base (λ_=>true) held n f.type ((cs.drop f.offset).take (P.cellsOf f.type))=xs[i]?)->xs.length=fs.length->
   (∀x∈xs,smallB x.1=true)->Hf P r fs off (xs.map (·.1))=some ds->Hq P q fs ds
 | [],off,xs,ds,_,d,_,a=>by
  have:xs= []:=yM.1 (by simpa using d);subst this;simp only[nT,Hf]at a;cases a;rfl
 |f::fs,off,[],ds,_,d,_,_=>by simp at d
 |f::fs,off,x::xs,ds,j,d,h,a=>by
  simp only[qm,Hf]at a;split at a
  ·split at a
   ·rename_i c e;split at a
    ·obtain⟨b,h1,rfl⟩:=zh.1 a;refine⟨c,b,rfl,k _ _ x c (by simpa using j 0 f (by simp)) (h x (by simp)) e,Na k fs _ xs b (λi g l=>by simpa using j (i+1) g (by simpa using l)) (by simpa using d) (λy m=>h y (by simp[m])) h1⟩
    ·cases a
   ·cases a
  ·cases a
theorem UI:∀(n:Nat)(t:TypeId)(cs:List Value)(x:DataW H×List MemPlace)(ds:List D),DataW.trod enc P w base (λ_=>true) held n t cs=some x->smallB x.1=true->Tc P n t x.1=some ds->Shp P n t ds
 |0,_,_,_,_,h,_,_=>by simp[DataW.trod]at h
 |n+1,t,cs,x,ds,h,v,c=>by
  simp only[Tc]at c;split at c
  ·rename_i g;obtain⟨b,rfl,rfl⟩:=gM g h;cases c;simp only[Shp,g];exact⟨b,rfl⟩
  ·rename_i q g;obtain⟨m,rfl,rfl,Q⟩:=dQ g h;cases c;simp only[Shp,g];refine⟨m,rfl,?_⟩;rw[oR];simpa [Lit.wf]using Q
  ·rename_i g;obtain⟨s,rfl,rfl,_⟩:=kS g h;simp only at c;split at c
   ·cases c;simp only[Shp,g];exact⟨_,rfl,by simpa [smallB]using v⟩
   ·cases c
  ·rename_i e g;rcases j0 g h with⟨rfl,rfl⟩ | ⟨a,len,cap,j,rest,m,O,rfl,rfl,T,N,J,u,C,_⟩
   ·cases c;simp only[Shp,g];exact .inl trivial
   ·have k:m=n:=ow;subst k;simp only[smallB,zF,zO,zG]at v;simp only at c;split at c
    ·split at c
     ·rename_i xs I;split at c
      ·cases c;simp only[Shp,g];obtain⟨l,G⟩:=YT I;rw[zG]at l;refine .inr ⟨xs,rfl,by omega,λz S=> ?_⟩;obtain⟨i,M⟩:=yw.1 S;obtain⟨d,p,B⟩:=G i z M;rw[zj]at p;cases o:j[i]? with
       |none=>rw[o]at p;cases p
       |some y=>
        rw[o]at p;cases p;have E:i<len:=by have:=(zK.1 o).1;omega
        have:=C i E;rw[o]at this;obtain⟨cs',_,F⟩:=sg.1 this;exact UI m e cs' y z F (jq v.2 _ (zM.2 ⟨y,zg o,rfl⟩)) B
      ·cases c
     ·cases c
    ·cases c
  ·rename_i fs g;obtain⟨xs,m,O,rfl,u,l,R⟩:=kT g h;have k:m=n:=ow;subst k;simp only[smallB]at v;simp only at c;split at c
   ·rename_i K A;split at c
    ·cases c;simp only[Shp,g];exact Na (r:=Tc P m) (n:=m) (λt cs x ds h1 L h3=>UI m t cs x ds h1 L h3) (cs:=cs) fs.toList 0 xs _ (λi f hf=>R i f (by simpa using hf)) (by rw[yQ];exact l) (λy o=>jq v _ (zM.2 ⟨y,o,rfl⟩)) A
    ·cases c
   ·cases c
  ·cases c
def NI(P:Program):List TypeId->List D->Prop
 | [],[]=>True
 |t::ts,x::xs=>(∃k cs,Shp P k t cs/\match agT P t with
  |some true=>x=.agg cs
  |some false=>cs= [x]
  |none=>False)/\NI P ts xs
 |_,_=>False
theorem NN{S:List TypeId}(o:IL P S=true):∀{j:List TypeId}{vs:List Value}{ds:List (DataW H)}{s:List MemPlace},(∀t∈j,zHQ P S t=true)->DataW.TrodAll enc P w base (λ_=>true) held j vs ds s->rC ds=true->∃f,dx P j ds f/\NI P j f
 | [],[],[],_,_,_,_=>⟨[],trivial,trivial⟩
 |t::j,v::vs,d::ds,s,r,h,k=>by
  simp only[DataW.TrodAll]at h;obtain⟨p,q,⟨n,h1⟩,u,_⟩:=h;simp only[rC,zF]at k;obtain⟨xs,g,i⟩:=NN o (λx m=>r x (by simp[m])) u k.2;have e:=r t (by simp);unfold zHQ at e;simp only[zF,pN,zO]at e;obtain⟨cs,k1,k2⟩:=Y6 o n t v.cells.toList (d,p) e.1 h1 (Zu _ k.1);have k3:=UI n t _ (d,p) cs h1 k.1 k1;have a:=e.2;split at a
  ·rename_i ag b;cases ag with
   |true=>exact⟨.agg cs::xs,⟨⟨n,by unfold zCD;simp only at k1;rw[k1];simp only[b];rfl⟩,g⟩,⟨n,cs,k3,by rw[b]⟩,i⟩
   |false=>
    have l:P.cellsOf t=1:=by simpa using a
    rw[l]at k2
    match cs,k2 with
    | [c],_=>exact⟨c::xs,⟨⟨n,by unfold zCD;simp only at k1;rw[k1];simp only[b];rfl⟩,g⟩,⟨n,[c],k3,by rw[b]⟩,i⟩
  ·cases a
 | [],_::_,_,_,_,h,_=>by simp[DataW.TrodAll]at h
 | [],[],_::_,_,_,h,_=>by simp[DataW.TrodAll]at h
 |_::_,[],_,_,_,h,_=>by simp[DataW.TrodAll]at h
 |_::_,_::_,[],_,_,h,_=>by simp[DataW.TrodAll]at h
end
variable{P:Program}{W:World}{n i:Nat}
theorem XX:∀{a:List (String×DataW Unit)}{c:List MemPlace}{i:Nat}{x:String×DataW Unit},DataW.LaidVars P W a c->a[i]? =some x->
  ∃g t cs fuel p,P.globalNamed x.1=some g/\(P.globals[g]?).map (·.type)=some t/\W.var? P x.1=some cs/\DataW.trod (λ_=>()) P W 0 (λ_=>true) false fuel t cs.toList=some (x.2,p)
 | [],_,i,_,_,b=>by simp at b
 |(n,d)::r,c,i,x,h,b=>by
  obtain⟨g,t,cs,fuel,p,q,h1,e,h3,f,h5,_⟩:=h;cases i with
  |zero=>
   simp only[wK,uD]at b;subst b;exact⟨g,t,cs,fuel,p,h1,e,h3,f⟩
  |succ i=>exact XX h5 (by simpa using b)
def P1{a:List (String×DataW Unit)}(h:laidMetH P a W)(s:(a.filter λx=>x.2.handleName?.isSome)= []){name:String}{k:IntKind}{zs:List Int}(r:a[i]? =some (name,Lib.tabData k zs))
  {g t e n:Nat} (q:P.globalNamed name=some g) (l:(P.globals[g]?).map (·.type)=some t) (u:P.underlying t=some (.array n e)) (o:P.underlying e=some (.int k)) (c:P.cellsOf e=1) (d:P.cellsOf t=n):Lib.TabIs P W name k zs:=by
 unfold laidMetH at h;rw[s]at h;obtain⟨y,v,_⟩:=h;obtain⟨w,z,cs,fuel,p,f,j,b,m⟩:=XX v r;obtain rfl:=oK (q.symm.trans f);obtain rfl:=oK (l.symm.trans j);unfold Lib.TabIs;simp only at b m;rw[b,<-Lib.cells_of_tab u o c d m]
end Go.V
