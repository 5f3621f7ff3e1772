/- Rules of the machine of abstract values, part 1. No condition. -/
import Derived.Test.YthcjhnmnhfgdiaaGreatDoorW04
set_option linter.all false
set_option maxHeartbeats 8000000
namespace Go.V
open Go.RowKit (Below)
section
variable {H:Type}
mutual
def smallB:DataW H->Bool
 | .lit l=>match l with
  | .string s=>decide (s.length<=1048576)
  |_=>true
 | .nil=>true
 | .ptr _=>true
 | .slice elems _=>decide (elems.length<=1048576)&&wF elems
 | .agg parts=>wF parts
 | .iface _ _=>true
 | .map _=>true
 | .held _=>true
def wF:List (DataW H)->Bool
 | []=>true
 |d::ds=>smallB d&&wF ds
end
theorem ry:∀ {ds:List (DataW H)},wF ds=true->∀d∈ds,smallB d=true
 | [],_,_,h=>by cases h
 |d::ds,a,x,b=>by
  simp only[wF,Bool.and_eq_true] at a;rcases List.mem_cons.1 b with rfl|b
  ·exact a.1
  ·exact ry a.2 x b
mutual
theorem kg:∀d:DataW H,smallB d=true->jO d=true
 | .lit l,h=>by
  cases l with
  |string s=>
   simp only[smallB,decide_eq_true_eq] at h;simp only[jO,decide_eq_true_eq];unfold lim;omega
  |_=>rfl
 | .nil,_=>rfl
 | .ptr _,_=>rfl
 | .slice a _,h=>by
  simp only[smallB,Bool.and_eq_true,decide_eq_true_eq] at h;simp only[jO,Bool.and_eq_true,decide_eq_true_eq];exact⟨by unfold lim;omega,sS a h.2⟩
 | .agg parts,h=>by
  simp only[smallB] at h;simp only[jO];exact sS parts h
 | .iface _ _,_=>rfl
 | .map _,_=>rfl
 | .held _,_=>rfl
theorem sS:∀ds:List (DataW H),wF ds=true->rx ds=true
 | [],_=>rfl
 |d::ds,h=>by
  simp only[wF,Bool.and_eq_true] at h;simp only[rx,Bool.and_eq_true];exact⟨kg d h.1,sS ds h.2⟩
end
def KT (P:Program) (r:TypeId->List D->Prop):List Field->List D->Prop
 | [],cs=>cs= []
 |f::fs,cs=>∃c cs',cs=c++cs'/\r f.type c/\KT P r fs cs'
def Shp (P:Program):Nat->TypeId->List D->Prop
 |0,_,_=>False
 |k+1,t,cs=>match P.underlying t with
  |some .bool=>∃b,cs= [.bool b]
  |some (.int q)=>∃n,cs= [.int q n]/\fits q n
  |some .string=>∃s,cs= [.str s]/\s.length<=1048576
  |some (.slice e)=>cs= [.nilsl]\/∃xs,cs= [.sl (P.cellsOf e) xs .no]/\xs.length<=1048576/\∀x∈xs,Shp P k e x
  |some (.struct fs)=>KT P (Shp P k) fs.toList cs
  |_=>False
variable {P:Program} {w:World} {base:Nat} {enc:TypeId×Value->H} {held:Bool}
variable {n:Nat}
theorem Vw {r:TypeId->DataW H->Option (List D)} {q:TypeId->List D->Prop} (k:∀t cs x ds,DataW.trod enc P w base (λ_=>true) held n t cs=some x->smallB x.1=true->r t x.1=some ds->q t ds) {cs:List Value} :
  ∀ (fs:List Field) (off:Nat) (xs:List (DataW H×List MemPlace)) (ds:List D),(∀ (i:Nat) (f:Field),fs[i]? =some f->DataW.trod enc P w base (λ_=>true) held n f.type ((cs.drop f.offset).take (P.cellsOf f.type))=xs[i]?)->xs.length=fs.length->
   (∀x∈xs,smallB x.1=true)->Lu P r fs off (xs.map (·.1))=some ds->KT P q fs ds
 | [],off,xs,ds,_,d,_,a=>by
  have:xs= []:=List.length_eq_zero_iff.1 (by simpa using d);subst this;simp only[List.map_nil,Lu] at a;cases a;rfl
 |f::fs,off,[],ds,_,d,_,_=>by simp at d
 |f::fs,off,x::xs,ds,j,d,h,a=>by
  simp only[List.map_cons,Lu] at a;split at a
  ·split at a
   ·rename_i c e;split at a
    ·obtain⟨b,h1,rfl⟩:=Option.map_eq_some_iff.1 a;refine⟨c,b,rfl,k _ _ x c (by simpa using j 0 f (by simp)) (h x (by simp)) e,Vw k fs _ xs b (λi g l=>by simpa using j (i+1) g (by simpa using l)) (by simpa using d) (λy m=>h y (by simp[m])) h1⟩
    ·cases a
   ·cases a
  ·cases a
theorem ab:∀ (n:Nat) (t:TypeId) (cs:List Value) (x:DataW H×List MemPlace) (ds:List D),DataW.trod enc P w base (λ_=>true) held n t cs=some x->smallB x.1=true->Zp P n t x.1=some ds->Shp P n t ds
 |0,_,_,_,_,h,_,_=>by simp[DataW.trod] at h
 |n+1,t,cs,x,ds,h,v,c=>by
  simp only[Zp] at c;split at c
  ·rename_i g;obtain⟨b,rfl,rfl⟩:=DataW.trod_bool g h;cases c;simp only[Shp,g];exact⟨b,rfl⟩
  ·rename_i q g;obtain⟨m,rfl,rfl,Q⟩:=DataW.trod_int g h;cases c;simp only[Shp,g];refine⟨m,rfl,?_⟩;rw[uK];simpa [Lit.wf] using Q
  ·rename_i g;obtain⟨s,rfl,rfl,_⟩:=DataW.trod_string g h;simp only at c;split at c
   ·cases c;simp only[Shp,g];exact⟨_,rfl,by simpa [smallB] using v⟩
   ·cases c
  ·rename_i e g;rcases DataW.trod_slice g h with⟨rfl,rfl⟩ | ⟨a,len,cap,j,rest,m,O,rfl,rfl,T,N,J,u,C,_⟩
   ·cases c;simp only[Shp,g];exact .inl trivial
   ·have k:m=n:=ow;subst k;simp only[smallB,Bool.and_eq_true,decide_eq_true_eq,List.length_map] at v;simp only at c;split at c
    ·split at c
     ·rename_i xs I;split at c
      ·cases c;simp only[Shp,g];obtain⟨l,G⟩:=jj I;rw[List.length_map] at l;refine .inr ⟨xs,rfl,by omega,λz S=> ?_⟩;obtain⟨i,M⟩:=List.mem_iff_getElem?.1 S;obtain⟨d,p,B⟩:=G i z M;rw[List.getElem?_map] at p;cases o:j[i]? with
       |none=>rw[o] at p;cases p
       |some y=>
        rw[o] at p;cases p;have E:i<len:=by have:=(List.getElem?_eq_some_iff.1 o).1;omega
        have:=C i E;rw[o] at this;obtain⟨cs',_,F⟩:=Option.bind_eq_some_iff.1 this;exact ab m e cs' y z F (ry v.2 _ (List.mem_map.2 ⟨y,List.mem_of_getElem? o,rfl⟩)) B
      ·cases c
     ·cases c
    ·cases c
  ·rename_i fs g;obtain⟨xs,m,O,rfl,u,l,R⟩:=DataW.trod_struct g h;have k:m=n:=ow;subst k;simp only[smallB] at v;simp only at c;split at c
   ·rename_i K A;split at c
    ·cases c;simp only[Shp,g];exact Vw (r:=Zp P m) (n:=m) (λt cs x ds h1 L h3=>ab m t cs x ds h1 L h3) (cs:=cs) fs.toList 0 xs _ (λi f hf=>R i f (by simpa using hf)) (by rw[Array.length_toList];exact l) (λy o=>ry v _ (List.mem_map.2 ⟨y,o,rfl⟩)) A
    ·cases c
   ·cases c
  ·cases c
def Vx (P:Program):List TypeId->List D->Prop
 | [],[]=>True
 |t::ts,x::xs=>(∃k cs,Shp P k t cs/\match agT P t with
  |some true=>x= .agg cs
  |some false=>cs= [x]
  |none=>False)/\Vx P ts xs
 |_,_=>False
theorem Vy {S:List TypeId} (o:Qs P S=true):∀ {j:List TypeId} {vs:List Value} {ds:List (DataW H)} {s:List MemPlace},(∀t∈j,zBT P S t=true)->DataW.TrodAll enc P w base (λ_=>true) held j vs ds s->wF ds=true->∃f,nQ P j ds f/\Vx P j f
 | [],[],[],_,_,_,_=>⟨[],trivial,trivial⟩
 |t::j,v::vs,d::ds,s,r,h,k=>by
  simp only[DataW.TrodAll] at h;obtain⟨p,q,⟨n,h1⟩,u,_⟩:=h;simp only[wF,Bool.and_eq_true] at k;obtain⟨xs,g,i⟩:=Vy o (λx m=>r x (by simp[m])) u k.2;have e:=r t (by simp);unfold zBT at e;simp only[Bool.and_eq_true,List.contains_eq_mem,decide_eq_true_eq] at e;obtain⟨cs,k1,k2⟩:=gh o n t v.cells.toList (d,p) e.1 h1 (kg _ k.1);have k3:=ab n t _ (d,p) cs h1 k.1 k1;have a:=e.2;split at a
  ·rename_i ag b;cases ag with
   |true=>exact⟨.agg cs::xs,⟨⟨n,by unfold Cj;simp only at k1;rw[k1];simp only[b];rfl⟩,g⟩,⟨n,cs,k3,by rw[b]⟩,i⟩
   |false=>
    have l:P.cellsOf t=1:=by simpa using a
    rw[l] at k2
    match cs,k2 with
    | [c],_=>exact⟨c::xs,⟨⟨n,by unfold Cj;simp only at k1;rw[k1];simp only[b];rfl⟩,g⟩,⟨n,[c],k3,by rw[b]⟩,i⟩
  ·cases a
 | [],_::_,_,_,_,h,_=>by simp[DataW.TrodAll] at h
 | [],[],_::_,_,_,h,_=>by simp[DataW.TrodAll] at h
 |_::_,[],_,_,_,h,_=>by simp[DataW.TrodAll] at h
 |_::_,_::_,[],_,_,h,_=>by simp[DataW.TrodAll] at h
end
variable {P:Program}{W:World}{n i:Nat}
theorem gi:∀ {a:List (String×DataW Unit)} {c:List MemPlace} {i:Nat} {x:String×DataW Unit},DataW.LaidVars P W a c->a[i]? =some x->
  ∃g t cs fuel p,P.globalNamed x.1=some g/\(P.globals[g]?).map (·.type)=some t/\W.var? P x.1=some cs/\DataW.trod (λ_=>()) P W 0 (λ_=>true) false fuel t cs.toList=some (x.2,p)
 | [],_,i,_,_,b=>by simp at b
 |(n,d)::r,c,i,x,h,b=>by
  obtain⟨g,t,cs,fuel,p,q,h1,e,h3,f,h5,_⟩:=h;cases i with
  |zero=>
   simp only[List.getElem?_cons_zero,Option.some.injEq] at b;subst b;exact⟨g,t,cs,fuel,p,h1,e,h3,f⟩
  |succ i=>exact gi h5 (by simpa using b)
def WT {a:List (String×DataW Unit)} (h:laidMetH P a W) (s:(a.filter λx=>x.2.handleName?.isSome)= []) {name:String} {k:IntKind} {zs:List Int} (r:a[i]? =some (name,Lib.tabData k zs))
  {g t e n:Nat} (q:P.globalNamed name=some g) (l:(P.globals[g]?).map (·.type)=some t) (u:P.underlying t=some (.array n e)) (o:P.underlying e=some (.int k)) (c:P.cellsOf e=1) (d:P.cellsOf t=n):Lib.TabIs P W name k zs:=by
 unfold laidMetH at h;rw[s] at h;obtain⟨y,v,_⟩:=h;obtain⟨w,z,cs,fuel,p,f,j,b,m⟩:=gi v r;obtain rfl:=Option.some.inj (q.symm.trans f);obtain rfl:=Option.some.inj (l.symm.trans j);unfold Lib.TabIs;simp only at b m;rw[b,<-Lib.cells_of_tab u o c d m]
end Go.V
