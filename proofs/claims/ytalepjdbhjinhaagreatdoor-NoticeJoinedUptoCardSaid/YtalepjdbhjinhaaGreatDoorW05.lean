/- A machine of abstract values for programs of the model, and its soundness, part 5. No condition. -/
import Derived.Test.YtalepjdbhjinhaaGreatDoorW04
import Derived.Carry
import Derived.ChangeArms
import Derived.ChangeSame
set_option linter.all false
namespace Go.V
open Go.RowKit (Below)
def zaf {α β:Type} (f:α→Option β):List α→Option (List β)
 | []=>some []
 |a::bb=>match f a with
  |none=>none
  |some b=>match zaf f bb with
   |none=>none
   |some bs=>some (b::bs)
theorem zGU {α β:Type} {f:α→Option β} :∀ {bb:List α} {bs:List β},zaf f bb=some bs→bs.length=bb.length∧∀ (i:Nat) (b:β),bs[i]? =some b→∃a,bb[i]? =some a∧f a=some b
 | [],bs,h=>by cases h;exact⟨rfl,fun i b hb=>by simp at hb⟩
 |a::bb,bs,h=>by
  simp only[zaf] at h;split at h
  ·cases h
  ·rename_i b hb;split at h
   ·cases h
   ·rename_i bs' hbs;cases h;obtain⟨h1,h2⟩:=zGU hbs;refine⟨by simp[h1],fun i b' hi=> ?_⟩;cases i with
    |zero=>cases hi;exact⟨a,rfl,hb⟩
    |succ i=>simpa using h2 i b' (by simpa using hi)
section
variable {H:Type}
def zUE (P:Program) (r:TypeId→DataW H→Option (List D)):List Field→Nat→List (DataW H)→Option (List D)
 | [],_,[]=>some []
 |f::fs,off,d::ds=>if f.offset=off then(match r f.type d with
  |some c=>if c.length=P.cellsOf f.type then(zUE P r fs (off+c.length) ds).map (c++ ·) else none
  |none=>none) else none
 |_,_,_=>none
def zKz (P:Program):Nat→TypeId→DataW H→Option (List D)
 |0,_,_=>none
 |k+1,t,d=>match P.underlying t with
  |some .bool=>match d with
   | .lit (.bool b)=>some [.bool b]
   |_=>none
  |some (.int _)=>match d with
   | .lit (.int k n)=>some [.int k n]
   |_=>none
  |some .string=>match d with
   | .lit (.string l)=>if l.length≤lim then some [.str l] else none
   |_=>none
  |some (.slice e)=>match d with
   | .nil=>some [.nilsl]
   | .slice elems _=>if decide (0<P.cellsOf e)&&decide (elems.length≤lim) then(match zaf (zKz P k e) elems with
    |some xs=>if xs.all (fun x=>x.length==P.cellsOf e) then some [.sl (P.cellsOf e) xs .no] else none
    |none=>none) else none
   |_=>none
  |some (.struct fs)=>match d with
   | .agg parts=>match zUE P (zKz P k) fs.toList 0 parts with
    |some ds=>if ds.length=P.cellsOf t then some ds else none
    |none=>none
   |_=>none
  |_=>none
def zEO (w:World):Imm:=fun b o=>w.cell? ⟨b,o,none⟩
variable {enc:TypeId×Value→H} {P:Program} {w:World} {base:Nat} {held:Bool} {ρ:Ren}
theorem zIx {a:Addr} {n:Nat} {cs:List Value} (h:w.cells? base a n=some cs):cs.length=n∧∀i,i<n→w.cell? (a.add i)=cs[i]? :=by
 unfold World.cells? at h;split at h
 ·refine⟨by simpa using mapM_some_length h,fun i hi=>mapM_some_get h i i (by simp[hi])⟩
 ·cases h
theorem zRP {a:Addr} {v:Value} (h:w.cell? a=some v):a.spot=none:=by
 unfold World.cell? at h;split at h
 ·split at h
  ·cases h
  ·rename_i hs;cases ha:a.spot with
   |none=>rfl
   |some x=>rw[ha] at hs;exact absurd rfl hs
 ·cases h
theorem zLT (b p i:Nat):(⟨b,p,none⟩:Addr).add i= ⟨b,p+i,none⟩:=qF b p i
theorem zOL {r:TypeId→DataW H→Option (List D)} {n:Nat} (ih:∀t cs x ds,DataW.trod enc P w base (fun _=>true) held n t cs=some x→r t x.1=some ds→zy (zEO w) ρ ds cs∧ds.all D.flat=true) {cs:List Value} {total:Nat} (htot:cs.length=total):
  ∀ (fs:List Field) (off:Nat) (xs:List (DataW H×List MemPlace)) (ds:List D),(∀ (i:Nat) (f:Field),fs[i]? =some f→DataW.trod enc P w base (fun _=>true) held n f.type ((cs.drop f.offset).take (P.cellsOf f.type))=xs[i]?)→xs.length=fs.length→
   zUE P r fs off (xs.map (·.1))=some ds→off+ds.length=total→zy (zEO w) ρ ds (cs.drop off)∧ds.all D.flat=true
 | [],off,[],ds,_,_,h,ht=>by
  simp only[List.map_nil,zUE] at h;cases h;simp only[List.length_nil,Nat.add_zero] at ht;refine⟨?_,rfl⟩;simp only[zy];apply List.eq_nil_of_length_eq_zero;simp;omega
 |f::fs,off,x::xs,ds,hx,hl,h,ht=>by
  simp only[List.map_cons,zUE] at h;split at h
  ·rename_i hoff;split at h
   ·rename_i c hc;split at h
    ·rename_i hcl;obtain⟨rest,hr,rfl⟩:=Option.map_eq_some_iff.1 h;have h0:=hx 0 f rfl;simp only[List.getElem?_cons_zero] at h0;obtain⟨k1,k2⟩:=ih _ _ _ _ h0 hc;have hrest:=zOL ih htot fs (off+c.length) xs rest (fun i g hg=>by
      have:=hx (i+1) g (by simpa using hg);simpa using this) (by simpa using hl) hr (by rw[List.length_append] at ht;omega)
     refine⟨?_,by rw[List.all_append,k2,hrest.2];rfl⟩;have hsp:cs.drop off=(cs.drop off).take c.length++cs.drop (off+c.length):=by
      rw[←List.drop_drop,List.take_append_drop]
     rw[hsp];refine yt ?_ hrest.1;rw[←hoff,hcl];exact k1
    ·cases h
   ·cases h
  ·cases h
 | [],_,_::_,_,_,hl,_,_=>by simp at hl
 |_::_,_,[],_,_,hl,_,_=>by simp at hl
theorem zJ8:∀ (k n:Nat) (t:TypeId) (cs:List Value) (x:DataW H×List MemPlace) (ds:List D),
  DataW.trod enc P w base (fun _=>true) held n t cs=some x→zKz P k t x.1=some ds→zy (zEO w) ρ ds cs∧ds.all D.flat=true
 |0,_,_,_,_,_,_,h=>by cases h
 |k+1,n,t,cs,x,ds,h,hc=>by
  simp only[zKz] at hc;split at hc
  ·rename_i hu;obtain⟨b,rfl,rfl⟩:=DataW.trod_bool hu h;cases hc;exact⟨⟨_,_,rfl,ym b,rfl⟩,rfl⟩
  ·rename_i q hu;obtain⟨m,rfl,rfl,hw⟩:=DataW.trod_int hu h;cases hc;refine⟨⟨_,_,rfl,yg ?_,rfl⟩,rfl⟩;rw[wY];simpa [Lit.wf] using hw
  ·rename_i hu;obtain⟨s,rfl,rfl,hs⟩:=DataW.trod_string hu h;simp only at hc;split at hc
   ·rename_i hlim;cases hc;refine⟨⟨_,_,rfl,?_,rfl⟩,rfl⟩;simp only[rel];exact⟨s,rfl,rfl,hlim⟩
   ·cases hc
  ·rename_i e hu;rcases DataW.trod_slice hu h with⟨rfl,rfl⟩ | ⟨a,len,cap,elems,rest,m,rfl,rfl,rfl,hb,hle,hmax,hlen,hel,hsp,_⟩
   ·cases hc;exact⟨⟨_,_,rfl,by simp only[rel],rfl⟩,rfl⟩
   ·simp only at hc;split at hc
    ·rename_i hcond;simp only[Bool.and_eq_true,decide_eq_true_eq,List.length_map] at hcond;obtain⟨h0,hlim⟩:=hcond;split at hc
     ·rename_i xs hxs;split at hc
      ·rename_i hall;cases hc;obtain⟨hxl,hxg⟩:=zGU hxs;rw[List.length_map] at hxl;have first:∀i y,(w.cells? base (a.add (i*P.cellsOf e)) (P.cellsOf e)).bind (DataW.trod enc P w base (fun _=>true) held m e)=some y→i=0→a.spot=none:=fun i y hy hi=>by
        obtain⟨cs',hcs,_⟩:=Option.bind_eq_some_iff.1 hy;obtain⟨g1,g2⟩:=zIx hcs;have:=g2 0 h0;subst hi;rw[show(a.add (0*P.cellsOf e)).add 0=a by simp[Addr.add]] at this;cases hcs0:cs'[0]? with
        |none=>rw[List.getElem?_eq_none_iff] at hcs0;omega
        |some v=>rw[hcs0] at this;exact zRP this
       have hspot:a.spot=none∨cap=0:=by
        by_cases hl0:0<len
        ·left;have:=hel 0 hl0;cases he0:elems[0]? with
         |none=>rw[List.getElem?_eq_none_iff] at he0;omega
         |some y=>rw[he0] at this;exact first 0 y this rfl
        ·by_cases hc0:cap=0
         ·exact .inr hc0
         ·left;obtain⟨r1,r2⟩:=hsp rfl;have:=r2 0 (by omega);cases he0:rest[0]? with
          |none=>rw[List.getElem?_eq_none_iff] at he0;omega
          |some y=>rw[he0] at this;exact first _ y this (by omega)
       refine⟨⟨_,_,rfl,?_,rfl⟩,rfl⟩;simp only[rel];obtain⟨b,p,sp⟩:=a;refine⟨h0,by omega,b,p,cap,⟨sp,by rw[hxl,hlen],hspot⟩,by omega,zAD fun i z hz=> ?_,trivial⟩;have hzl:z.length=P.cellsOf e:=by simpa using List.all_eq_true.1 hall z (List.mem_of_getElem? hz)
       refine⟨hzl,?_⟩;obtain⟨d,hd,hdz⟩:=hxg i z hz;rw[List.getElem?_map] at hd;cases hy:elems[i]? with
       |none=>rw[hy] at hd;cases hd
       |some y=>
        rw[hy] at hd;cases hd;have hi:i<len:=by have:=(List.getElem?_eq_some_iff.1 hy).1;omega
        have hsn:sp=none:=hspot.resolve_right (by omega);subst hsn;have:=hel i hi;rw[hy] at this;obtain⟨cs',hcs,htr⟩:=Option.bind_eq_some_iff.1 this;obtain⟨g1,g2⟩:=zIx hcs;obtain⟨k1,k2⟩:=zJ8 k m e cs' y z htr hdz;refine yi fun j d hj=>⟨List.all_eq_true.1 k2 d (List.mem_of_getElem? hj),?_⟩;obtain⟨v,v1,v2⟩:=yq k1 j d hj;refine⟨v,?_,v2⟩;have hjl:j<P.cellsOf e:=by have:=(List.getElem?_eq_some_iff.1 hj).1;omega
        have:=g2 j hjl;rw[zLT,zLT] at this;unfold zEO;rw[←v1,←this]
      ·cases hc
     ·cases hc
    ·cases hc
  ·rename_i fs hu;obtain⟨xs,m,rfl,rfl,hlen,hxl,hx⟩:=DataW.trod_struct hu h;simp only at hc;split at hc
   ·rename_i ds' hds;split at hc
    ·rename_i hl;cases hc;have:=zOL (ρ:=ρ) (n:=m) (fun t cs x ds h1 h2=>zJ8 k m t cs x ds h1 h2) hlen fs.toList 0 xs ds (fun i f hf=>hx i f (by simpa using hf)) (by rw[Array.length_toList];exact hxl) hds (by rw[Nat.zero_add];exact hl);simpa using this
    ·cases hc
   ·cases hc
  ·cases hc
theorem zPw {W W':World} (hb:Below W.heap.size W W') (may:MemPlace→Prop):W.keptBut W' may:=by
 refine⟨hb.os,hb.output,fun i hi=> ?_⟩;rw[hb.block i hi];cases W.heap[i]? with
 |none=>trivial
 |some o=>
  cases o with
  |cells c t fr=>exact⟨rfl,rfl,rfl,fun _ _=>rfl⟩
  |map es clock=>exact .inr ⟨rfl,rfl⟩
  |_=>rfl
theorem zRQ {W W':World} (hb:Below W.heap.size W W') {a:Addr} (ha:a.block<W.heap.size):W'.frozen? a=W.frozen? a:=by
 unfold World.frozen?;rw[hb.block _ ha]
theorem zRR {W W':World} (hb:Below W.heap.size W W') {p:MemPlace} (hp:p.block<W.heap.size):W.sameAt W' p:=hb.same hp
theorem zEP {W W':World} (hl:laidOutB P=true) {sp':Nat→Bool} (hb:Below W.heap.size W W'):∀ {ts:List TypeId} {vs:List Value} {ds:List (DataW H)} {ps:List MemPlace},(∀t∈ts,P.readableRec t=true∧t<P.types.size)→
  DataW.TrodAll enc P W 0 (fun _=>true) true ts vs ds ps→(∀p∈ps,p.block<W.heap.size)→(∀p∈ps,sp' p.block=true)→DataW.TrodAll enc P W' 0 sp' true ts vs ds ps
 | [],[],[],_,_,h,_,_=>h
 |t::ts,v::vs,d::ds,ps,ht,h,hlt,hs=>by
  simp only[DataW.TrodAll] at h⊢;obtain⟨p,q,h1,h2,rfl⟩:=h;exact⟨p,q,WideElems.Trod_stays hl (ht t (by simp)).1 (ht t (by simp)).2 h1 (fun x hx=>zRR hb (hlt x (by simp[hx]))) (fun x hx=>hs x (by simp[hx])),
   zEP hl hb (fun t' ht'=>ht t' (by simp[ht'])) h2 (fun x hx=>hlt x (by simp[hx])) (fun x hx=>hs x (by simp[hx])),rfl⟩
 | [],_::_,_,_,_,h,_,_=>by simp[DataW.TrodAll] at h
 | [],[],_::_,_,_,h,_,_=>by simp[DataW.TrodAll] at h
 |_::_,[],_,_,_,h,_,_=>by simp[DataW.TrodAll] at h
 |_::_,_::_,[],_,_,h,_,_=>by simp[DataW.TrodAll] at h
theorem zRS {f:Func} {s:ChangeSpec} {apart fresh handsOn again:Bool} {W W':World} {args:Array Value} {ds gs:List (DataW H)} {before:List MemPlace} {tb:TypeId} (hl:laidOutB P=true) (hts:∀t∈f.params.toList,P.readableRec t=true∧t<P.types.size)
  (hvars:s.vars= []) (hfn:s.fn H ds= { results:=[.lit (.bool true)],args:=ds }) (hres:f.resultTypes= #[tb]) (htb:P.underlying tb=some .bool)
  (hW:DataW.Whole enc P f.params.toList s.vars apart W args.toList ds gs before) (hb:Below W.heap.size W W'):s.post enc P f apart fresh handsOn again W args (.bool true) W':=by
 have hW':=hW;obtain⟨p,q,h1,h2,hps,hz,hn⟩:=hW;rw[hvars] at h2;obtain⟨rfl,rfl⟩:=ChangeShapes.trodVars_none h2;simp only[List.append_nil] at hps;subst hps;have hlt:∀x∈before,x.block<W.heap.size:=hW'.lt;have hargs:∀sp:Nat→Bool,(∀x∈before,sp x.block=true)→DataW.TrodAll enc P W' 0 sp true f.params.toList args.toList ds before:=fun sp hs=>zEP hl hb hts h1 hlt hs;have hr:∀ (b:Nat) (sp:Nat→Bool) (hd:Bool),DataW.TrodAll enc P W' b sp hd f.resultTypes.toList ((Value.bool true).resultList f.resultTypes.size) [.lit (.bool true)] []:=fun b sp hd=>by
  rw[hres];show DataW.TrodAll enc P W' b sp hd [tb] [.bool true] _ _;refine⟨[],[],⟨1,?_⟩,rfl,rfl⟩;simp[DataW.trod,htb,Value.cells]
 have hall:DataW.TrodAll enc P W' 0 (fun _=>true) true (f.resultTypes.toList++f.params.toList) ((Value.bool true).resultList f.resultTypes.size++args.toList) ([.lit (.bool true)]++ds) ([]++before):=
  ChangeShapes.trodAll_append (hargs _ fun _ _=>rfl) (hr _ _ _)
 refine⟨ds,[],before,[],before,[],hW',?_,?_,?_,zPw hb _,fun _=>⟨fun j t r h1 h2=> ?_,[.lit (.bool true)]++ds,[],[]++before,⟨[]++before,[],hall,?_,by simp,?_,?_⟩,fun x hx _=>by simpa using hx⟩⟩
 ·rw[List.append_nil,hfn];exact hr _ _ _
 ·rw[List.append_nil,hfn];exact hargs _ fun x hx=>by simpa using hlt x hx
 ·rw[List.append_nil,hfn,hvars];rfl
 ·rw[hres] at h1 h2;have hj:j=0:=by
   have:=(Array.getElem?_eq_some_iff.1 h1).1;simp at this;omega
  subst hj;have e1:t=tb:=by simpa using h1.symm
  have e2:r= .bool true:=by simpa [Value.resultList] using h2.symm
  rw[e1,e2];simp[Value.okWide,htb,Cell.okWide,Cell.ok]
 ·rw[hvars];rfl
 ·intro b off hp;have hp':MemPlace.cell b off∈before:=by simpa using hp
  rw[zRQ hb (hlt _ hp')];exact hz b off (by simpa using hp')
 ·intro ha;simpa using hn ha
def zbb (P:Program) (k:Nat) (t:TypeId) (d:DataW H):Option D:=
 match zKz P k t d with
 |none=>none
 |some ds=>match agT P t with
  |some ag=>if ag then some (.agg ds) else(match ds with
   | [x]=>some x
   |_=>none)
  |none=>none
def zDh (P:Program):List TypeId→List (DataW H)→List D→Prop
 | [],[],[]=>True
 |t::ts,d::ds,x::xs=>(∃k,zbb P k t d=some x)∧zDh P ts ds xs
 |_,_,_=>False
theorem zLU {r:Reach} {t:TypeId} {v:Value} (hok:Value.okWide P w r base t v):(∃cs,v= .agg cs)∨v.cells= #[v]:=by
 cases v<;>first|exact .inr rfl|exact .inl ⟨_,rfl⟩
theorem zX3 {r:Reach} {b:Nat} {t:TypeId} {v:Value} {d:DataW H} {ps:List MemPlace} {k:Nat} {da:D} (hok:Value.okWide P w r b t v) (htr:DataW.Trod enc P w base (fun _=>true) held t v d ps) (ha:zbb P k t d=some da):rel (zEO w) ρ da v:=by
 obtain⟨n,hn⟩:=htr;unfold zbb at ha;split at ha
 ·cases ha
 ·rename_i ds hds;obtain⟨k1,k2⟩:=zJ8 (ρ:=ρ) k n t v.cells.toList (d,ps) ds hn hds;split at ha
  ·rename_i ag hag;unfold agT at hag;split at ha
   ·rename_i hagt;subst hagt;cases ha;simp only[rel];unfold Value.okWide at hok;split at hag
    ·rename_i fs hu;rw[hu] at hok;obtain⟨cs,rfl,_⟩:=hok;exact⟨cs,rfl,k1,k2⟩
    ·rename_i q e hu;rw[hu] at hok;obtain⟨cs,rfl,_⟩:=hok;exact⟨cs,rfl,k1,k2⟩
    ·cases hag
    ·cases hag
   ·rename_i hagf;split at ha
    ·cases ha;rcases zLU hok with⟨cs,rfl⟩ |hc
     ·exfalso;unfold Value.okWide at hok;have hag':ag=false:=by simpa using hagf
      subst hag';split at hag
      ·cases hag
      ·cases hag
      ·rename_i u hs harr hu;rw[hu] at hok;split at hok
       ·rename_i fs e;cases e;exact absurd hu (by first|exact hs _|exact fun h=>by simp_all)
       ·rename_i q e' e;cases e;exact absurd hu (by first|exact harr _ _|exact fun h=>by simp_all)
       ·unfold Cell.okWide at hok;rw[hu] at hok;cases u<;>simp[Cell.ok,hu] at hok
      ·cases hag
     ·rw[hc] at k1;simp only[zy] at k1;obtain⟨v',vs',e,h1,h2⟩:=k1;subst h2
      have:v'=v:=by simpa using e.symm
      rw[←this];exact h1
    ·cases ha
  ·cases ha
theorem zOM {r:Reach} {b:Nat} :∀ {ts:List TypeId} {vs:List Value} {ds:List (DataW H)} {ps:List MemPlace} {das:List D},(∀ (j:Nat) t v,ts[j]? =some t→vs[j]? =some v→Value.okWide P w r b t v)→
  DataW.TrodAll enc P w base (fun _=>true) held ts vs ds ps→zDh P ts ds das→zy (zEO w) ρ das vs
 | [],[],[],_,[],_,_,_=>rfl
 |t::ts,v::vs,d::ds,ps,x::xs,hok,h,ha=>by
  simp only[DataW.TrodAll] at h;obtain⟨p,q,h1,h2,_⟩:=h;simp only[zDh] at ha;obtain⟨⟨k,hx⟩,hxs⟩:=ha;exact⟨v,vs,rfl,zX3 (hok 0 t v rfl rfl) h1 hx,zOM (fun j t' v' e1 e2=>hok (j+1) t' v' (by simpa using e1) (by simpa using e2)) h2 hxs⟩
 | [],_::_,_,_,_,_,h,_=>by simp[DataW.TrodAll] at h
 | [],[],_::_,_,_,_,h,_=>by simp[DataW.TrodAll] at h
 |_::_,[],_,_,_,_,h,_=>by simp[DataW.TrodAll] at h
 |_::_,_::_,[],_,_,_,h,_=>by simp[DataW.TrodAll] at h
 | [],[],[],_,_::_,_,_,ha=>by simp[zDh] at ha
 |_::_,_::_,_::_,_,[],_,_,ha=>by simp[zDh] at ha
theorem zLV {W:World} {f:FuncId} {fn:Func} {s:ChangeSpec} {apart fresh handsOn again:Bool} {b:Nat} {args:Array Value} {ds gs:List (DataW H)} {before:List MemPlace} {tb:TypeId} {das:List D} (hl:laidOutB P=true)
  (hts:∀t∈fn.params.toList,P.readableRec t=true∧t<P.types.size) (hvars:s.vars= []) (hfn:s.fn H ds= { results:=[.lit (.bool true)],args:=ds }) (hres:fn.resultTypes= #[tb]) (htb:P.underlying tb=some .bool)
  (hval:∀ (j:Nat) t v,fn.params[j]? =some t→args[j]? =some v→Value.okWide P W .any b t v) (hW:DataW.Whole enc P fn.params.toList s.vars apart W args.toList ds gs before)
  (hda:zDh P fn.params.toList ds das) (hgood:zMy P W) (hv:zA P f das Heap.emp fun d _=>d= .bool true):
  Calls P f args W fun e W'=>∃v,e= .returned v∧s.post enc P fn apart fresh handsOn again W args v W':=by
 have hW':=hW;obtain⟨p,q,h1,_⟩:=hW;have hr:zy (zEO W) (fun _=>none) das args.toList:=zOM (fun j t v e1 e2=>hval j t v (by simpa using e1) (by simpa using e2)) h1 hda
 let B:Base:=⟨W,zEO W,fun b=>b<W.heap.size,fun _ hb=>hb⟩
 have hs:Sim B [] (zEO W) (fun _=>none) Heap.emp W:=
  { below:=⟨rfl,rfl,rfl,Nat.le_refl _,fun _ _=>rfl,Nat.le_refl _⟩,imm:=fun b o v e=>e,live:=fun i ob e=>(by cases e),apart:=fun i j oi oj li lj e=>(by cases e),gdef:=fun b hb=>(by cases hb),old:=fun b o v _ e=>e }
 refine(hv.2 B [] _ _ W args (zJn.start hgood) hs (fun _ _=>rfl) hr).mono fun e W' hq=> ?_;obtain⟨v,M',ρ',d,h',rfl,_,_,k3,_,k5,rfl⟩:=hq;simp only[rel] at k5;subst k5;exact⟨_,rfl,zRS hl hts hvars hfn hres htb hW' ⟨k3.below.os,k3.below.tape,k3.below.output,k3.below.size,fun b hb=>k3.below.block b hb⟩⟩
mutual
def zF8:DataW H→Bool
 | .lit l=>match l with
  | .string s=>decide (s.length≤lim)
  |_=>true
 | .nil=>true
 | .ptr _=>true
 | .slice elems _=>decide (elems.length≤lim)&&zB8 elems
 | .agg parts=>zB8 parts
 | .iface _ _=>true
 | .map _=>true
 | .held _=>true
def zB8:List (DataW H)→Bool
 | []=>true
 |d::ds=>zF8 d&&zB8 ds
end
theorem zCh:∀ {ds:List (DataW H)},zB8 ds=true→∀d∈ds,zF8 d=true
 | [],_,_,h=>by cases h
 |d::ds,hs,x,hx=>by
  simp only[zB8,Bool.and_eq_true] at hs;rcases List.mem_cons.1 hx with rfl|hx
  ·exact hs.1
  ·exact zCh hs.2 x hx
def zLW (P:Program):List Field→Nat→Nat→Bool
 | [],off,n=>off==n
 |f::fs,off,n=>f.offset==off&&zLW P fs (off+P.cellsOf f.type) n
def zRT (P:Program) (S:List TypeId):Bool:=S.all fun t=>match P.underlying t with
 |some .bool=>P.cellsOf t==1
 |some (.int _)=>P.cellsOf t==1
 |some .string=>P.cellsOf t==1
 |some (.slice e)=>S.contains e&&decide (0<P.cellsOf e)&&P.cellsOf t==1
 |some (.struct fs)=>zLW P fs.toList 0 (P.cellsOf t)&&fs.toList.all fun f=>S.contains f.type
 |_=>false
theorem zLX {α β:Type} {f:α→Option β} :∀ {bb:List α},(∀a∈bb,∃b,f a=some b)→∃bs,zaf f bb=some bs
 | [],_=>⟨[],rfl⟩
 |a::bb,h=>by
  obtain⟨b,hb⟩:=h a (by simp);obtain⟨bs,hbs⟩:=zLX (f:=f) (bb:=bb) fun x hx=>h x (by simp[hx]);exact⟨b::bs,by simp[zaf,hb,hbs]⟩
theorem zLY {S:List TypeId} {r:TypeId→DataW H→Option (List D)} {n:Nat} (ih:∀t cs x,t∈S→DataW.trod enc P w base (fun _=>true) held n t cs=some x→zF8 x.1=true→∃ds,r t x.1=some ds∧ds.length=P.cellsOf t) {cs:List Value} {total:Nat} :
  ∀ (fs:List Field) (off:Nat) (xs:List (DataW H×List MemPlace)),(∀ (i:Nat) (f:Field),fs[i]? =some f→DataW.trod enc P w base (fun _=>true) held n f.type ((cs.drop f.offset).take (P.cellsOf f.type))=xs[i]?)→xs.length=fs.length→
   (∀f∈fs,f.type∈S)→zLW P fs off total=true→(∀x∈xs,zF8 x.1=true)→∃ds,zUE P r fs off (xs.map (·.1))=some ds∧off+ds.length=total
 | [],off,[],_,_,_,hc,_=>⟨[],rfl,by simpa [zLW] using hc⟩
 |f::fs,off,x::xs,hx,hl,hS,hc,hsm=>by
  simp only[zLW,Bool.and_eq_true,beq_iff_eq] at hc;have h0:=hx 0 f rfl;simp only[List.getElem?_cons_zero] at h0;obtain⟨c,hc1,hc2⟩:=ih _ _ _ (hS f (by simp)) h0 (hsm x (by simp));obtain⟨rest,hr1,hr2⟩:=zLY ih fs (off+c.length) xs (fun i g hg=>by
   have:=hx (i+1) g (by simpa using hg);simpa using this) (by simpa using hl) (fun g hg=>hS g (by simp[hg])) (by rw[hc2];exact hc.2) (fun y hy=>hsm y (by simp[hy]))
  refine⟨c++rest,?_,by rw[List.length_append];omega⟩;simp only[List.map_cons,zUE,if_pos hc.1,hc1,if_pos hc2,hr1,Option.map_some]
 | [],_,_::_,_,hl,_,_,_=>by simp at hl
 |_::_,_,[],_,hl,_,_,_=>by simp at hl
theorem zHG {S:List TypeId} (hp:zRT P S=true):∀ (n:Nat) (t:TypeId) (cs:List Value) (x:DataW H×List MemPlace),t∈S→DataW.trod enc P w base (fun _=>true) held n t cs=some x→zF8 x.1=true→∃ds,zKz P n t x.1=some ds∧ds.length=P.cellsOf t
 |0,_,_,_,_,h,_=>by simp[DataW.trod] at h
 |n+1,t,cs,x,ht,h,hs=>by
  have hpt:=List.all_eq_true.1 hp t ht;split at hpt
  ·rename_i hu;obtain⟨b,rfl,rfl⟩:=DataW.trod_bool hu h;exact⟨[.bool b],by simp only[zKz,hu],by have:=beq_iff_eq.1 hpt;exact this.symm⟩
  ·rename_i q hu;obtain⟨m,rfl,rfl,hw⟩:=DataW.trod_int hu h;exact⟨[.int q m],by simp only[zKz,hu],by have:=beq_iff_eq.1 hpt;exact this.symm⟩
  ·rename_i hu;obtain⟨b,rfl,rfl,_⟩:=DataW.trod_string hu h;have hl:b.data.toList.length≤lim:=by simpa [zF8] using hs
   exact⟨[.str b.data.toList],by simp only[zKz,hu,if_pos hl],by have:=beq_iff_eq.1 hpt;exact this.symm⟩
  ·rename_i e hu;simp only[Bool.and_eq_true,decide_eq_true_eq,beq_iff_eq,List.contains_eq_mem] at hpt;obtain⟨⟨he,h0⟩,h1⟩:=hpt;rcases DataW.trod_slice hu h with⟨rfl,rfl⟩ | ⟨a,len,cap,elems,rest,m,hm,rfl,rfl,hb,hle,hmax,hlen,hel,_⟩
   ·exact⟨[.nilsl],by simp only[zKz,hu],h1.symm⟩
   ·have hmn:m=n:=by omega
    subst hmn;simp only[zF8,Bool.and_eq_true,decide_eq_true_eq,List.length_map] at hs;have each:∀ (i:Nat) (y:DataW H×List MemPlace),elems[i]? =some y→∃ds,zKz P m e y.1=some ds∧ds.length=P.cellsOf e:=fun i y hy=>by
     have hi:i<len:=by have:=(List.getElem?_eq_some_iff.1 hy).1;omega
     have:=hel i hi;rw[hy] at this;obtain⟨cs',_,htr⟩:=Option.bind_eq_some_iff.1 this;exact zHG hp m e cs' y he htr (zCh hs.2 _ (List.mem_map.2 ⟨y,List.mem_of_getElem? hy,rfl⟩))
    obtain⟨xs,hxs⟩:=zLX (f:=zKz P m e) (bb:=elems.map (·.1)) fun d hd=>by
     obtain⟨y,hy,rfl⟩:=List.mem_map.1 hd;obtain⟨i,hi⟩:=List.mem_iff_getElem?.1 hy;obtain⟨ds,g1,_⟩:=each i y hi;exact⟨ds,g1⟩
    have hall:xs.all (fun x=>x.length==P.cellsOf e)=true:=List.all_eq_true.2 fun z hz=>by
     obtain⟨i,hi⟩:=List.mem_iff_getElem?.1 hz;obtain⟨d,hd,hdz⟩:=(zGU hxs).2 i z hi;rw[List.getElem?_map] at hd;cases hy:elems[i]? with
     |none=>rw[hy] at hd;cases hd
     |some y=>
      rw[hy] at hd;cases hd;obtain⟨ds,g1,g2⟩:=each i y hy;rw[hdz] at g1;cases g1;simpa using g2
    refine⟨[.sl (P.cellsOf e) xs .no],by simp only[zKz,hu,hxs,hall,List.length_map,decide_eq_true h0,decide_eq_true hs.1,Bool.and_self,if_true],h1.symm⟩
  ·rename_i fs hu;simp only[Bool.and_eq_true,List.all_eq_true,List.contains_eq_mem,decide_eq_true_eq] at hpt;obtain⟨xs,m,hm,rfl,hlen,hxl,hx⟩:=DataW.trod_struct hu h;have hmn:m=n:=by omega
   subst hmn;simp only[zF8] at hs;obtain⟨ds,g1,g2⟩:=zLY (r:=zKz P m) (n:=m) (fun t cs x h1 h2 h3=>zHG hp m t cs x h1 h2 h3) (cs:=cs) fs.toList 0 xs (fun i f hf=>hx i f (by simpa using hf)) (by rw[Array.length_toList];exact hxl) hpt.2 hpt.1 (fun y hy=>zCh hs _ (List.mem_map.2 ⟨y,hy,rfl⟩));rw[Nat.zero_add] at g2;exact⟨ds,by simp only[zKz,hu,g1,if_pos g2],g2⟩
  ·cases hpt
def zeG (P:Program) (S:List TypeId) (t:TypeId):Bool:=S.contains t&&(match agT P t with
 |some ag=>ag||P.cellsOf t==1
 |none=>false)
end
end Go.V
