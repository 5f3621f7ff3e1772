/- Rules of the machine of abstract values, part 1. No condition. -/
import Derived.Test.YtalepjdbhjinhaaGreatDoorW05
set_option linter.all false
namespace Go.V
open Go.RowKit (Below)
section
variable {H:Type}
mutual
def smallB:DataW H→Bool
 | .lit l=>match l with
  | .string s=>decide (s.length≤1048576)
  |_=>true
 | .nil=>true
 | .ptr _=>true
 | .slice elems _=>decide (elems.length≤1048576)&&qr elems
 | .agg parts=>qr parts
 | .iface _ _=>true
 | .map _=>true
 | .held _=>true
def qr:List (DataW H)→Bool
 | []=>true
 |d::ds=>smallB d&&qr ds
end
theorem zB9:∀ {ds:List (DataW H)},qr ds=true→∀d∈ds,smallB d=true
 | [],_,_,h=>by cases h
 |d::ds,hs,x,hx=>by
  simp only[qr,Bool.and_eq_true] at hs;rcases List.mem_cons.1 hx with rfl|hx
  ·exact hs.1
  ·exact zB9 hs.2 x hx
mutual
theorem zFn:∀d:DataW H,smallB d=true→zF8 d=true
 | .lit l,h=>by
  cases l with
  |string s=>
   simp only[smallB,decide_eq_true_eq] at h;simp only[zF8,decide_eq_true_eq];unfold lim;omega
  |_=>rfl
 | .nil,_=>rfl
 | .ptr _,_=>rfl
 | .slice elems _,h=>by
  simp only[smallB,Bool.and_eq_true,decide_eq_true_eq] at h;simp only[zF8,Bool.and_eq_true,decide_eq_true_eq];exact⟨by unfold lim;omega,zBD elems h.2⟩
 | .agg parts,h=>by
  simp only[smallB] at h;simp only[zF8];exact zBD parts h
 | .iface _ _,_=>rfl
 | .map _,_=>rfl
 | .held _,_=>rfl
theorem zBD:∀ds:List (DataW H),qr ds=true→zB8 ds=true
 | [],_=>rfl
 |d::ds,h=>by
  simp only[qr,Bool.and_eq_true] at h;simp only[zB8,Bool.and_eq_true];exact⟨zFn d h.1,zBD ds h.2⟩
end
def zX4 (P:Program) (r:TypeId→List D→Prop):List Field→List D→Prop
 | [],cs=>cs= []
 |f::fs,cs=>∃c cs',cs=c++cs'∧r f.type c∧zX4 P r fs cs'
def Shp (P:Program):Nat→TypeId→List D→Prop
 |0,_,_=>False
 |k+1,t,cs=>match P.underlying t with
  |some .bool=>∃b,cs= [.bool b]
  |some (.int q)=>∃n,cs= [.int q n]∧fits q n
  |some .string=>∃s,cs= [.str s]∧s.length≤1048576
  |some (.slice e)=>cs= [.nilsl]∨∃xs,cs= [.sl (P.cellsOf e) xs .no]∧xs.length≤1048576∧∀x∈xs,Shp P k e x
  |some (.struct fs)=>zX4 P (Shp P k) fs.toList cs
  |_=>False
variable {P:Program} {w:World} {base:Nat} {enc:TypeId×Value→H} {held:Bool}
theorem zON {r:TypeId→DataW H→Option (List D)} {q:TypeId→List D→Prop} {n:Nat} (ih:∀t cs x ds,DataW.trod enc P w base (fun _=>true) held n t cs=some x→smallB x.1=true→r t x.1=some ds→q t ds) {cs:List Value} :
  ∀ (fs:List Field) (off:Nat) (xs:List (DataW H×List MemPlace)) (ds:List D),(∀ (i:Nat) (f:Field),fs[i]? =some f→DataW.trod enc P w base (fun _=>true) held n f.type ((cs.drop f.offset).take (P.cellsOf f.type))=xs[i]?)→xs.length=fs.length→
   (∀x∈xs,smallB x.1=true)→zUE P r fs off (xs.map (·.1))=some ds→zX4 P q fs ds
 | [],off,xs,ds,_,hl,_,hc=>by
  have:xs= []:=List.length_eq_zero_iff.1 (by simpa using hl);subst this;simp only[List.map_nil,zUE] at hc;cases hc;rfl
 |f::fs,off,[],ds,_,hl,_,_=>by simp at hl
 |f::fs,off,x::xs,ds,hx,hl,hs,hc=>by
  simp only[List.map_cons,zUE] at hc;split at hc
  ·split at hc
   ·rename_i c hcc;split at hc
    ·obtain⟨ds',h1,rfl⟩:=Option.map_eq_some_iff.1 hc;refine⟨c,ds',rfl,ih _ _ x c (by simpa using hx 0 f (by simp)) (hs x (by simp)) hcc,zON ih fs _ xs ds' (fun i g hg=>by simpa using hx (i+1) g (by simpa using hg)) (by simpa using hl) (fun y hy=>hs y (by simp[hy])) h1⟩
    ·cases hc
   ·cases hc
  ·cases hc
theorem zJ9:∀ (n:Nat) (t:TypeId) (cs:List Value) (x:DataW H×List MemPlace) (ds:List D),DataW.trod enc P w base (fun _=>true) held n t cs=some x→smallB x.1=true→zKz P n t x.1=some ds→Shp P n t ds
 |0,_,_,_,_,h,_,_=>by simp[DataW.trod] at h
 |n+1,t,cs,x,ds,h,hs,hc=>by
  simp only[zKz] at hc;split at hc
  ·rename_i hu;obtain⟨b,rfl,rfl⟩:=DataW.trod_bool hu h;cases hc;simp only[Shp,hu];exact⟨b,rfl⟩
  ·rename_i q hu;obtain⟨m,rfl,rfl,hw⟩:=DataW.trod_int hu h;cases hc;simp only[Shp,hu];refine⟨m,rfl,?_⟩;rw[wY];simpa [Lit.wf] using hw
  ·rename_i hu;obtain⟨s,rfl,rfl,_⟩:=DataW.trod_string hu h;simp only at hc;split at hc
   ·cases hc;simp only[Shp,hu];exact⟨_,rfl,by simpa [smallB] using hs⟩
   ·cases hc
  ·rename_i e hu;rcases DataW.trod_slice hu h with⟨rfl,rfl⟩ | ⟨a,len,cap,elems,rest,m,hm,rfl,rfl,hb,hle,hmax,hlen,hel,_⟩
   ·cases hc;simp only[Shp,hu];exact .inl trivial
   ·have hmn:m=n:=by omega
    subst hmn;simp only[smallB,Bool.and_eq_true,decide_eq_true_eq,List.length_map] at hs;simp only at hc;split at hc
    ·split at hc
     ·rename_i xs hxs;split at hc
      ·cases hc;simp only[Shp,hu];obtain⟨hxl,hxg⟩:=zGU hxs;rw[List.length_map] at hxl;refine .inr ⟨xs,rfl,by omega,fun z hz=> ?_⟩;obtain⟨i,hi⟩:=List.mem_iff_getElem?.1 hz;obtain⟨d,hd,hdz⟩:=hxg i z hi;rw[List.getElem?_map] at hd;cases hy:elems[i]? with
       |none=>rw[hy] at hd;cases hd
       |some y=>
        rw[hy] at hd;cases hd;have hi':i<len:=by have:=(List.getElem?_eq_some_iff.1 hy).1;omega
        have:=hel i hi';rw[hy] at this;obtain⟨cs',_,htr⟩:=Option.bind_eq_some_iff.1 this;exact zJ9 m e cs' y z htr (zB9 hs.2 _ (List.mem_map.2 ⟨y,List.mem_of_getElem? hy,rfl⟩)) hdz
      ·cases hc
     ·cases hc
    ·cases hc
  ·rename_i fs hu;obtain⟨xs,m,hm,rfl,hlen,hxl,hx⟩:=DataW.trod_struct hu h;have hmn:m=n:=by omega
   subst hmn;simp only[smallB] at hs;simp only at hc;split at hc
   ·rename_i ds' hds;split at hc
    ·cases hc;simp only[Shp,hu];exact zON (r:=zKz P m) (n:=m) (fun t cs x ds h1 h2 h3=>zJ9 m t cs x ds h1 h2 h3) (cs:=cs) fs.toList 0 xs _ (fun i f hf=>hx i f (by simpa using hf)) (by rw[Array.length_toList];exact hxl) (fun y hy=>zB9 hs _ (List.mem_map.2 ⟨y,hy,rfl⟩)) hds
    ·cases hc
   ·cases hc
  ·cases hc
def zOO (P:Program):List TypeId→List D→Prop
 | [],[]=>True
 |t::ts,x::xs=>(∃k cs,Shp P k t cs∧match agT P t with
  |some true=>x= .agg cs
  |some false=>cs= [x]
  |none=>False)∧zOO P ts xs
 |_,_=>False
theorem zOP {S:List TypeId} (hp:zRT P S=true):∀ {ts:List TypeId} {vs:List Value} {ds:List (DataW H)} {ps:List MemPlace},(∀t∈ts,zeG P S t=true)→DataW.TrodAll enc P w base (fun _=>true) held ts vs ds ps→qr ds=true→∃das,zDh P ts ds das∧zOO P ts das
 | [],[],[],_,_,_,_=>⟨[],trivial,trivial⟩
 |t::ts,v::vs,d::ds,ps,ht,h,hs=>by
  simp only[DataW.TrodAll] at h;obtain⟨p,q,⟨n,h1⟩,h2,_⟩:=h;simp only[qr,Bool.and_eq_true] at hs;obtain⟨xs,hxs,hys⟩:=zOP hp (fun t' ht'=>ht t' (by simp[ht'])) h2 hs.2;have hat:=ht t (by simp);unfold zeG at hat;simp only[Bool.and_eq_true,List.contains_eq_mem,decide_eq_true_eq] at hat;obtain⟨cs,k1,k2⟩:=zHG hp n t v.cells.toList (d,p) hat.1 h1 (zFn _ hs.1);have k3:=zJ9 n t _ (d,p) cs h1 hs.1 k1;have hat2:=hat.2;split at hat2
  ·rename_i ag hag;cases ag with
   |true=>exact⟨.agg cs::xs,⟨⟨n,by unfold zbb;simp only at k1;rw[k1];simp only[hag];rfl⟩,hxs⟩,⟨n,cs,k3,by rw[hag]⟩,hys⟩
   |false=>
    have h1c:P.cellsOf t=1:=by simpa using hat2
    rw[h1c] at k2
    match cs,k2 with
    | [c],_=>exact⟨c::xs,⟨⟨n,by unfold zbb;simp only at k1;rw[k1];simp only[hag];rfl⟩,hxs⟩,⟨n,[c],k3,by rw[hag]⟩,hys⟩
  ·cases hat2
 | [],_::_,_,_,_,h,_=>by simp[DataW.TrodAll] at h
 | [],[],_::_,_,_,h,_=>by simp[DataW.TrodAll] at h
 |_::_,[],_,_,_,h,_=>by simp[DataW.TrodAll] at h
 |_::_,_::_,[],_,_,h,_=>by simp[DataW.TrodAll] at h
end
theorem zHH {P:Program} {W:World} :∀ {laid:List (String×DataW Unit)} {ps:List MemPlace} {i:Nat} {x:String×DataW Unit},DataW.LaidVars P W laid ps→laid[i]? =some x→
  ∃g t cs fuel p,P.globalNamed x.1=some g∧(P.globals[g]?).map (·.type)=some t∧W.var? P x.1=some cs∧DataW.trod (fun _=>()) P W 0 (fun _=>true) false fuel t cs.toList=some (x.2,p)
 | [],_,i,_,_,hi=>by simp at hi
 |(n,d)::r,ps,i,x,h,hi=>by
  obtain⟨g,t,cs,fuel,p,q,h1,h2,h3,h4,h5,_⟩:=h;cases i with
  |zero=>
   simp only[List.getElem?_cons_zero,Option.some.injEq] at hi;subst hi;exact⟨g,t,cs,fuel,p,h1,h2,h3,h4⟩
  |succ i=>exact zHH h5 (by simpa using hi)
theorem zM7 {P:Program} {W:World} {laid:List (String×DataW Unit)} (h:laidMetH P laid W) (hn:(laid.filter fun x=>x.2.handleName?.isSome)= []) {i:Nat} {name:String} {k:IntKind} {zs:List Int} (hi:laid[i]? =some (name,Lib.tabData k zs))
  {g t e n:Nat} (hg:P.globalNamed name=some g) (hty:(P.globals[g]?).map (·.type)=some t) (ht:P.underlying t=some (.array n e)) (he:P.underlying e=some (.int k)) (hce:P.cellsOf e=1) (hct:P.cellsOf t=n):Lib.TabIs P W name k zs:=by
 unfold laidMetH at h;rw[hn] at h;obtain⟨ps,hv,_⟩:=h;obtain⟨g',t',cs,fuel,p,hg',ht',hvar,hd⟩:=zHH hv hi;obtain rfl:=Option.some.inj (hg.symm.trans hg');obtain rfl:=Option.some.inj (hty.symm.trans ht');unfold Lib.TabIs;simp only at hvar hd;rw[hvar,←Lib.cells_of_tab ht he hce hct hd]
end Go.V
