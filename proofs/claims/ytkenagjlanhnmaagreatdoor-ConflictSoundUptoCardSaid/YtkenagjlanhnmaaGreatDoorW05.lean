/- Rules of the machine of abstract values, part 1. No condition. -/
import Derived.Test.YtkenagjlanhnmaaGreatDoorW04
set_option linter.all false
set_option maxHeartbeats 8000000
namespace Go.V
open Go.RowKit (Below)
section
variable{H:Type}
mutual
def smallB:DataW H->Bool
 |.lit l=>match l with
  |.string s=>decide (s.length<=1048576)
  |_=>true
 |.nil=>true
 |.ptr _=>true
 |.slice elems _=>decide (elems.length<=1048576)&&sg elems
 |.agg parts=>sg parts
 |.iface _ _=>true
 |.map _=>true
 |.held _=>true
def sg:List (DataW H)->Bool
 | []=>true
 |d::ds=>smallB d&&sg ds
end
theorem jV:∀{ds:List (DataW H)},sg ds=true->∀d∈ds,smallB d=true
 | [],_,_,h=>by cases h
 |d::ds,a,x,b=>by
  simp only[sg,zF]at a;rcases z7.1 b with rfl|b
  .exact a.1
  .exact jV a.2 x b
mutual
theorem Zt:∀d:DataW H,smallB d=true->YC d=true
 |.lit l,h=>by
  cases l with
  |string s=>
   simp only[smallB,zO]at h;simp only[YC,zO];unfold lim;omega
  |_=>rfl
 |.nil,_=>rfl
 |.ptr _,_=>rfl
 |.slice a _,h=>by
  simp only[smallB,zF,zO]at h;simp only[YC,zF,zO];exact⟨jL,mj a h.2⟩
 |.agg parts,h=>by
  simp only[smallB]at h;simp only[YC];exact mj parts h
 |.iface _ _,_=>rfl
 |.map _,_=>rfl
 |.held _,_=>rfl
theorem mj:∀ds:List (DataW H),sg ds=true->jU ds=true
 | [],_=>rfl
 |d::ds,h=>by
  simp only[sg,zF]at h;simp only[jU,zF];exact⟨Zt d h.1,mj ds h.2⟩
end
def Hu(P:Program)(r:TypeId->List D->Prop):List Field->List D->Prop
 | [],cs=>cs= []
 |f::fs,cs=>∃c cs',cs=c++cs'/\r f.type c/\Hu P r fs cs'
def Shp(P:Program):Nat->TypeId->List D->Prop
 |0,_,_=>False
 |k+1,t,cs=>match P.underlying t with
  |some .bool=>∃b,cs= [.bool b]
  |some (.int q)=>∃n,cs= [.int q n]/\fits q n
  |some .string=>∃s,cs= [.str s]/\s.length<=1048576
  |some (.slice e)=>cs= [.nilsl]\/∃xs,cs= [.sl (P.cellsOf e) xs .no]/\xs.length<=1048576/\∀x∈xs,Shp P k e x
  |some (.struct fs)=>Hu P (Shp P k) fs.toList cs
  |_=>False
variable{P:Program}{w:World}{base:Nat}{enc:TypeId×Value->H}{held:Bool}
variable{n:Nat}
theorem Ng{r:TypeId->DataW H->Option (List D)}{q:TypeId->List D->Prop}(k:∀t cs x ds,DataW.trod enc P w base (λ_=>true) held n t cs=some x->smallB x.1=true->r t x.1=some ds->q t ds){cs:List Value} :
  ∀(fs:List Field)(off:Nat)(xs:List (DataW H×List MemPlace))(ds:List D),(∀(i:Nat)(f:Field),fs[i]? =some f->DataW.trod enc P w base (λ_=>true) held n f.type ((cs.drop f.offset).take (P.cellsOf f.type))=xs[i]?)->xs.length=fs.length->
   (∀x∈xs,smallB x.1=true)->Hg P r fs off (xs.map (·.1))=some ds->Hu P q fs ds
 | [],off,xs,ds,_,d,_,a=>by
  have:xs= []:=ye.1 (by simpa using d);subst this;simp only[nF,Hg]at a;cases a;rfl
 |f::fs,off,[],ds,_,d,_,_=>by simp at d
 |f::fs,off,x::xs,ds,j,d,h,a=>by
  simp only[qe,Hg]at a;split at a
  .split at a
   .rename_i c e
    split at a
    .obtain⟨b,h1,rfl⟩:=ze.1 a
     refine⟨c,b,rfl,k _ _ x c (by simpa using j 0 f jS) (h x jS) e,Ng k fs _ xs b (λi g l=>by simpa using j (i+1) g (by simpa using l)) (by simpa using d) (λy m=>h y (by simp[m])) h1⟩
    .cases a
   .cases a
  .cases a
theorem UN:∀(n:Nat)(t:TypeId)(cs:List Value)(x:DataW H×List MemPlace)(ds:List D),DataW.trod enc P w base (λ_=>true) held n t cs=some x->smallB x.1=true->Td P n t x.1=some ds->Shp P n t ds
 |0,_,_,_,_,h,_,_=>by simp[DataW.trod]at h
 |n+1,t,cs,x,ds,h,v,c=>by
  simp only[Td]at c;split at c
  .rename_i g
   obtain⟨b,rfl,rfl⟩:=j5 g h;cases c;simp only[Shp,g];exact⟨b,rfl⟩
  .rename_i q g
   obtain⟨m,rfl,rfl,Q⟩:=dP g h;cases c;simp only[Shp,g];refine⟨m,rfl,?_⟩;rw[p7];simpa [Lit.wf]using Q
  .rename_i g
   obtain⟨s,rfl,rfl,_⟩:=ly g h;simp only at c;split at c
   .cases c
    simp only[Shp,g];exact⟨_,rfl,by simpa [smallB]using v⟩
   .cases c
  .rename_i e g
   rcases jc g h with⟨rfl,rfl⟩ | ⟨a,len,cap,j,rest,m,O,rfl,rfl,T,N,J,u,C,_⟩
   .cases c
    simp only[Shp,g];exact .inl trivial
   .have k:m=n:=ow
    subst k;simp only[smallB,zF,zO,zI]at v;simp only at c;split at c
    .split at c
     .rename_i xs I
      split at c
      .cases c
       simp only[Shp,g];obtain⟨l,G⟩:=YQ I;rw[zI]at l;refine .inr ⟨xs,rfl,ow,λz S=> ?_⟩;obtain⟨i,M⟩:=yh.1 S;obtain⟨d,p,B⟩:=G i z M;rw[zm]at p;cases o:j[i]? with
       |none=>rw[o]at p;cases p
       |some y=>
        rw[o]at p;cases p;have E:i<len:=by have:=(zK.1 o).1;omega
        have:=C i E;rw[o]at this;obtain⟨cs',_,F⟩:=sN.1 this;exact UN m e cs' y z F (jV v.2 _ (zS.2 ⟨y,zh o,rfl⟩)) B
      .cases c
     .cases c
    .cases c
  .rename_i fs g
   obtain⟨xs,m,O,rfl,u,l,R⟩:=lz g h;have k:m=n:=ow;subst k;simp only[smallB]at v;simp only at c;split at c
   .rename_i K A
    split at c
    .cases c
     simp only[Shp,g];exact Ng (r:=Td P m) (n:=m) (λt cs x ds h1 L h3=>UN m t cs x ds h1 L h3) (cs:=cs) fs.toList 0 xs _ (λi f hf=>R i f (by simpa using hf)) (by rw[yI];exact l) (λy o=>jV v _ (zS.2 ⟨y,o,rfl⟩)) A
    .cases c
   .cases c
  .cases c
def NM(P:Program):List TypeId->List D->Prop
 | [],[]=>True
 |t::ts,x::xs=>(∃k cs,Shp P k t cs/\match agT P t with
  |some true=>x=.agg cs
  |some false=>cs= [x]
  |none=>False)/\NM P ts xs
 |_,_=>False
theorem NS{S:List TypeId}(o:IG P S=true):∀{j:List TypeId}{vs:List Value}{ds:List (DataW H)}{s:List MemPlace},(∀t∈j,zHw P S t=true)->DataW.TrodAll enc P w base (λ_=>true) held j vs ds s->sg ds=true->∃f,dz P j ds f/\NM P j f
 | [],[],[],_,_,_,_=>⟨[],trivial,trivial⟩
 |t::j,v::vs,d::ds,s,r,h,k=>by
  simp only[DataW.TrodAll]at h;obtain⟨p,q,⟨n,h1⟩,u,_⟩:=h;simp only[sg,zF]at k;obtain⟨xs,g,i⟩:=NS o (λx m=>r x (by simp[m])) u k.2;have e:=r t jS;unfold zHw at e;simp only[zF,rx,zO]at e;obtain⟨cs,k1,k2⟩:=Y7 o n t v.cells.toList (d,p) e.1 h1 (Zt _ k.1);have k3:=UN n t _ (d,p) cs h1 k.1 k1;have a:=e.2;split at a
  .rename_i ag b
   cases ag with
   |true=>exact⟨.agg cs::xs,⟨⟨n,by unfold zCL;simp only at k1;rw[k1];simp only[b];rfl⟩,g⟩,⟨n,cs,k3,by rw[b]⟩,i⟩
   |false=>
    have l:P.cellsOf t=1:=by simpa using a
    rw[l]at k2
    match cs,k2 with
    | [c],_=>exact⟨c::xs,⟨⟨n,by unfold zCL;simp only at k1;rw[k1];simp only[b];rfl⟩,g⟩,⟨n,[c],k3,by rw[b]⟩,i⟩
  .cases a
 | [],_::_,_,_,_,h,_=>by simp[DataW.TrodAll]at h
 | [],[],_::_,_,_,h,_=>by simp[DataW.TrodAll]at h
 |_::_,[],_,_,_,h,_=>by simp[DataW.TrodAll]at h
 |_::_,_::_,[],_,_,h,_=>by simp[DataW.TrodAll]at h
end
variable{P:Program}{W:World}{n i:Nat}
theorem Xa:∀{a:List (String×DataW Unit)}{c:List MemPlace}{i:Nat}{x:String×DataW Unit},DataW.LaidVars P W a c->a[i]? =some x->
  ∃g t cs fuel p,P.globalNamed x.1=some g/\(P.globals[g]?).map (·.type)=some t/\W.var? P x.1=some cs/\DataW.trod (λ_=>()) P W 0 (λ_=>true) false fuel t cs.toList=some (x.2,p)
 | [],_,i,_,_,b=>by simp at b
 |(n,d)::r,c,i,x,h,b=>by
  obtain⟨g,t,cs,fuel,p,q,h1,e,h3,f,h5,_⟩:=h;cases i with
  |zero=>
   simp only[wW,wX]at b;subst b;exact⟨g,t,cs,fuel,p,h1,e,h3,f⟩
  |succ i=>exact Xa h5 (by simpa using b)
def P4{a:List (String×DataW Unit)}(h:laidMetH P a W)(s:(a.filter λx=>x.2.handleName?.isSome)= []){name:String}{k:IntKind}{zs:List Int}(r:a[i]? =some (name,Lib.tabData k zs))
  {g t e n:Nat} (q:P.globalNamed name=some g) (l:(P.globals[g]?).map (·.type)=some t) (u:P.underlying t=some (.array n e)) (o:P.underlying e=some (.int k)) (c:P.cellsOf e=1) (d:P.cellsOf t=n):Lib.TabIs P W name k zs:=by
 unfold laidMetH at h;rw[s]at h;obtain⟨y,v,_⟩:=h;obtain⟨w,z,cs,fuel,p,f,j,b,m⟩:=Xa v r;obtain rfl:=mP (q.symm.trans f);obtain rfl:=mP (l.symm.trans j);unfold Lib.TabIs;simp only at b m;rw[b,<-Lib.cells_of_tab u o c d m]
end Go.V
