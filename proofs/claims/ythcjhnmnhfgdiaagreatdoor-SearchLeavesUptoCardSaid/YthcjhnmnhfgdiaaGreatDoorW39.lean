/- None, part 1. No condition. -/
import Derived.Test.YthcjhnmnhfgdiaaGreatDoorW38
import Derived.Test.YthcjhnmnhfgdiaaGreatDoorW22
set_option linter.all false
set_option maxHeartbeats 8000000
namespace Go.V
open List hiding max min map and or get le lt range extract
open Nat(zero_le le_refl le_trans lt_irrefl le_of_lt lt_of_lt_of_le lt_of_le_of_lt lt_succ_iff_lt_or_eq le_of_lt_succ)
set_option maxRecDepth 100000
def tO (fs:List Fac) (i:Nat):Int:=match fs[i]? with
 |some f=>f.kind
 |none=> -1
theorem dS {p:Fac->Bool} :∀ {l:List Fac} {k i:Nat},i∈yw p l k↔k<=i/\∃h:i-k<l.length,p l[i-k]=true
 | [],k,i=>by simp[yw]
 |f::l,k,i=>by
  have b:=dS (p:=p) (l:=l) (k:=k+1) (i:=i);have key:(i∈yw p (f::l) k)↔(p f=true/\i=k)\/i∈yw p l (k+1):=by
   rw[yw];split
   ·rename_i h;simp[h]
   ·rename_i h;simp[h]
  rw[key,b];constructor
  ·rintro(⟨h1,rfl⟩ | ⟨h1,a,h3⟩)
   ·exact⟨le_refl _,by simp,by simpa using h1⟩
   ·refine⟨by omega,by simp only[length_cons];omega,?_⟩
    have:i-k=(i- (k+1))+1:=ow;simp only[this,getElem_cons_succ];exact h3
  ·rintro⟨h1,a,h3⟩;by_cases e:i=k
   ·subst e;left;exact⟨by simpa using h3,rfl⟩
   ·right
    have:i-k=(i- (k+1))+1:=ow;simp only[this,getElem_cons_succ] at h3;exact⟨by omega,by simp only[length_cons] at a;omega,h3⟩
variable {N:Int}{fs:List Fac}{i j sz n k:Nat}{al:Nat->Option Alt}{α:Type}{b:Bool}{c:Cat}{P:Program}{h0 h g:Heap}{xs ys:List (List D)}{d x:D}{K:D->Heap->Prop}{cs:List D}{tk:Tk}
def VQ {q:Fac->Bool} :i∈fIx N q fs↔∃h:i<fs.length,fs[i].kind=N/\q fs[i]=true:=by
 unfold fIx;rw[dS];simp only[zero_le,Nat.sub_zero,true_and,isF,Bool.and_eq_true,beq_iff_eq]
def sf (h:i<fs.length):tO fs i=fs[i].kind:=by
 unfold tO;rw[getElem?_eq_getElem h]
def uX {k:Int} (h:tO fs i=k) (a:0<=k):i<fs.length:=by
 unfold tO at h;split at h
 ·rename_i q;exact(List.getElem?_eq_some_iff.1 q).1
 ·omega
def Xl (h:i<fs.length):wY fs i=fs[i].comp:=by
 unfold wY;rw[getElem?_eq_getElem h]
def Ta (h:i<fs.length):we fs i=fs[i].out:=by
 unfold we;rw[getElem?_eq_getElem h]
def j5 {k:Int} (b:0<=k) :j∈fIx k (λg=>g.comp==wY fs i) fs↔tO fs j=k/\wY fs j=wY fs i:=by
 rw[VQ];constructor
 ·rintro⟨h,h1,a⟩;exact⟨by rw[sf h,h1],by rw[Xl h];simpa using a⟩
 ·rintro⟨h1,a⟩;have h:=uX h1 b;exact⟨h,by rw[<-sf h,h1],by rw[Xl h] at a;simpa using a⟩
def Zi {k:Int} (b:0<=k) :j∈fIx k (λg=>g.out==we fs i) fs↔tO fs j=k/\we fs j=we fs i:=by
 rw[VQ];constructor
 ·rintro⟨h,h1,a⟩;exact⟨by rw[sf h,h1],by rw[Ta h];simpa using a⟩
 ·rintro⟨h1,a⟩;have h:=uX h1 b;exact⟨h,by rw[<-sf h,h1],by rw[Ta h] at a;simpa using a⟩
def j6 {k:Int} (a:0<=k) :j∈fIx k (λ_=>true) fs↔tO fs j=k:=by
 rw[VQ];constructor
 ·rintro⟨h,h1,_⟩;rw[sf h,h1]
 ·intro h1;have h:=uX h1 a;exact⟨h,by rw[<-sf h,h1],rfl⟩
structure TriP (fs:List Fac) (al:Nat->Option Alt) (i u h:Nat):Prop where
 lt:i<fs.length
 al:(al i).isSome=true
 ku:tO fs u=0
 cu:wY fs u=wY fs i
 kh:tO fs h=2
 oh:we fs h=we fs u
def wo {t:Tri} :t∈yA fs al↔TriP fs al t.1 t.2.1 t.2.2:=by
 unfold yA;rw[mem_flatMap];constructor
 ·rintro⟨i,e,a⟩;unfold Rr at a;split at a
  ·rename_i d;rw[mem_flatMap] at a;obtain⟨u,c,a⟩:=a;unfold Rq at a;rw[mem_map] at a;obtain⟨h,b,rfl⟩:=a;rw[j5 (by decide)] at c;rw[Zi (by decide)] at b;exact⟨mem_range.1 e,d,c.1,c.2,b.1,b.2⟩
  ·cases a
 ·intro h;obtain⟨i,u,k⟩:=t;refine⟨i,mem_range.2 h.lt,?_⟩;unfold Rr;rw[ip h.al,mem_flatMap];refine⟨u,(j5 (by decide)).2 ⟨h.ku,h.cu⟩,?_⟩;unfold Rq;exact mem_map.2 ⟨k,(Zi (by decide)).2 ⟨h.kh,h.oh⟩,rfl⟩
def j7 (c:Cat) (fs:List Fac) (al:Nat->Option Alt) (O:KV):Nat->List Nat->Prop
 |0,l=>∃i u h,TriP fs al i u h/\VH c (bh al i) (nh fs h) (se fs u) 5 (λ_=>true)=true/\l= [i,u,h]
 |1,l=>∃i u h own,TriP fs al i u h/\kC (we fs u) O=some own/\VH c (bh al i) (nh fs h) (se fs u) 4 (dK own)=true/\l= [i,u,h]
 |2,l=>∃i u h k,TriP fs al i u h/\tO fs k=4/\wY fs k=wY fs i/\((!(bi fs k==2)||J0 fs u)&&VH c (bh al i) (nh fs h) (se fs u) (bi fs k) (λ_=>true))=true/\l= [i,u,h,k]
 |3,l=>∃i u h i' u' h',TriP fs al i u h/\TriP fs al i' u' h'/\(se fs u==0)=true/\(!(Rt fs (i,u,h) (i',u',h'))&&Er c (bh al i) (bh al i'))=true/\l= [i,i',u,u',h]
 |4,l=>∃i h own,tO fs i=3/\kC (we fs i) O=some own/\((TV fs i).any λs=>s==own)=false/\tO fs h=2/\we fs h=we fs i/\l= [i,h]
 |_,l=>c.ls.length=0/\∃h,tO fs h=2/\l= [h]
def oN {x y:α} :(y∈if b=true then [x] else [])↔b=true/\y=x:=by
 cases b<;>simp
def Tb {O:KV} {r:Nat} {z:List Int} :z∈nn c fs al O r↔∃l,j7 c fs al O r l/\z=l.map λn:Nat=>(n:Int):=by
 rcases r with _|_|_|_|_|r
 ·show z∈nn c fs al O 0↔∃l,j7 c fs al O 0 l/\z=l.map λn:Nat=>(n:Int);simp only[nn,j7];rw[mem_flatMap];constructor
  ·rintro⟨t,d,a⟩;rw[wo] at d;unfold wZ at a;rw[oN] at a;exact⟨_,⟨t.1,t.2.1,t.2.2,d,a.1,rfl⟩,a.2⟩
  ·rintro⟨l,⟨i,u,h,d,b,rfl⟩,rfl⟩;refine⟨(i,u,h),wo.2 d,?_⟩;unfold wZ;rw[oN];exact⟨b,rfl⟩
 ·show z∈nn c fs al O 1↔∃l,j7 c fs al O 1 l/\z=l.map λn:Nat=>(n:Int);simp only[nn,j7];rw[mem_flatMap];constructor
  ·rintro⟨t,d,a⟩;rw[wo] at d;unfold ua at a;split at a
   ·cases a
   ·rename_i own f;rw[oN] at a;exact⟨_,⟨t.1,t.2.1,t.2.2,own,d,f,a.1,rfl⟩,a.2⟩
  ·rintro⟨l,⟨i,u,h,own,d,f,b,rfl⟩,rfl⟩;refine⟨(i,u,h),wo.2 d,?_⟩;unfold ua;simp only[f];rw[oN];exact⟨b,rfl⟩
 ·show z∈nn c fs al O 2↔∃l,j7 c fs al O 2 l/\z=l.map λn:Nat=>(n:Int);simp only[nn,j7];rw[mem_flatMap];constructor
  ·rintro⟨t,d,a⟩;rw[wo] at d;unfold oy at a;rw[mem_flatMap] at a;obtain⟨k,j,a⟩:=a;rw[j5 (by decide)] at j;unfold nj at a;rw[oN] at a;exact⟨_,⟨t.1,t.2.1,t.2.2,k,d,j.1,j.2,a.1,rfl⟩,a.2⟩
  ·rintro⟨l,⟨i,u,h,k,d,j,s,b,rfl⟩,rfl⟩;refine⟨(i,u,h),wo.2 d,?_⟩;unfold oy;rw[mem_flatMap];refine⟨k,(j5 (by decide)).2 ⟨j,s⟩,?_⟩;unfold nj;rw[oN];exact⟨b,rfl⟩
 ·show z∈nn c fs al O 3↔∃l,j7 c fs al O 3 l/\z=l.map λn:Nat=>(n:Int);simp only[nn,j7];rw[mem_flatMap];constructor
  ·rintro⟨t,d,a⟩;rw[wo] at d;unfold wn at a;split at a
   ·rename_i hr;rw[mem_flatMap] at a;obtain⟨p,e,a⟩:=a;rw[wo] at e;unfold tg at a;rw[oN] at a;exact⟨_,⟨t.1,t.2.1,t.2.2,p.1,p.2.1,p.2.2,d,e,hr,a.1,rfl⟩,a.2⟩
   ·cases a
  ·rintro⟨l,⟨i,u,h,v,w,h',d,e,hr,b,rfl⟩,rfl⟩;refine⟨(i,u,h),wo.2 d,?_⟩;unfold wn;rw[ip hr,mem_flatMap];refine⟨(v,w,h'),wo.2 e,?_⟩;unfold tg;rw[oN];exact⟨b,rfl⟩
 ·show z∈nn c fs al O 4↔∃l,j7 c fs al O 4 l/\z=l.map λn:Nat=>(n:Int);simp only[nn,j7];rw[mem_flatMap];constructor
  ·rintro⟨i,m,a⟩;rw[j6 (by decide)] at m;unfold rg at a;split at a
   ·cases a
   ·rename_i own f;split at a
    ·cases a
    ·rename_i g;rw[mem_flatMap] at a;obtain⟨h,b,a⟩:=a;unfold dM at a;rw[mem_singleton] at a;have b:=(Zi (by decide)).1 b;exact⟨_,⟨i,h,own,m,f,Bool.eq_false_iff.2 g,b.1,b.2,rfl⟩,a⟩
  ·rintro⟨l,⟨i,h,own,m,f,g,b,o,rfl⟩,rfl⟩;refine⟨i,(j6 (by decide)).2 m,?_⟩;unfold rg;simp only[f];rw[iq (by rw[g];decide),mem_flatMap];refine⟨h,(Zi (by decide)).2 ⟨b,o⟩,?_⟩;unfold dM;exact mem_singleton.2 rfl
 ·show z∈dN c fs↔∃l,(c.ls.length=0/\∃h,tO fs h=2/\l= [h])/\z=l.map λn:Nat=>(n:Int);unfold dN;constructor
  ·intro a;split at a
   ·cases a
   ·rename_i g;rw[mem_flatMap] at a;obtain⟨h,b,a⟩:=a;rw[j6 (by decide)] at b;unfold Xa at a;rw[mem_singleton] at a;exact⟨_,⟨by have:¬(c.ls.length:Int)>0:=λq=>g (decide_eq_true q);omega,h,b,rfl⟩,a⟩
  ·rintro⟨l,⟨g,h,b,rfl⟩,rfl⟩;rw[iq (λq=>by have:=of_decide_eq_true q;omega),mem_flatMap];refine⟨h,(j6 (by decide)).2 b,?_⟩;unfold Xa;exact mem_singleton.2 rfl
structure Emb (fs gs:List Fac) (f:Nat->Nat):Prop where
 get:∀j,j<gs.length->gs[j]? =fs[f j]?
 mono:∀i j,i<j->j<gs.length->f i<f j
section
variable {c:Cat} {fs gs:List Fac} {f:Nat->Nat} {al al':Nat->Option Alt} {O O':KV} (E:Emb fs gs f)
include E
end
variable {c:Cat}{fs:List Fac}{al:Nat->Option Alt}
def j7.lt {O:KV} {r:Nat} {l:List Nat} (h:j7 c fs al O r l):∀x∈l,x<fs.length:=by
 have b:∀ {i u k:Nat},TriP fs al i u k->i<fs.length/\u<fs.length/\k<fs.length:=λT=>⟨T.lt,uX T.ku (by decide),uX T.kh (by decide)⟩;rcases r with _|_|_|_|_|r
 ·have h:j7 c fs al O 0 l:=h;simp only[j7] at h;obtain⟨i,u,k,T,_,rfl⟩:=h;have:=b T;intro x a;simp at a;omega
 ·have h:j7 c fs al O 1 l:=h;simp only[j7] at h;obtain⟨i,u,k,own,T,_,_,rfl⟩:=h;have:=b T;intro x a;simp at a;omega
 ·have h:j7 c fs al O 2 l:=h;simp only[j7] at h;obtain⟨i,u,k,m,T,d,_,_,rfl⟩:=h;have:=b T;have:=uX d (by decide);intro x a;simp at a;omega
 ·have h:j7 c fs al O 3 l:=h;simp only[j7] at h;obtain⟨i,u,k,g,j,k',T,e,_,_,rfl⟩:=h;have:=b T;have:=b e;intro x a;simp at a;omega
 ·have h:j7 c fs al O 4 l:=h;simp only[j7] at h;obtain⟨i,k,own,f,_,_,d,_,rfl⟩:=h;have:=uX f (by decide);have:=uX d (by decide);intro x a;simp at a;omega
 ·have h:c.ls.length=0/\∃h,tO fs h=2/\l= [h]:=h;obtain⟨_,k,d,rfl⟩:=h;have:=uX d (by decide);intro x a;simp at a;omega
section
variable {fs:List Fac} {I:List Nat}
theorem lM:∀ {l:List Fac} {o:List (List UInt8)} {s:List UInt8},s∈tT l o↔s∈o\/∃f∈l,f.kind=2/\f.out=s
 | [],o,s=>by simp[tT]
 |f::fs,o,s=>by
  rw[tT];by_cases h1:(f.kind==1)=true
  ·rw[ip h1,lM];have d:f.kind=1:=by simpa using h1
   constructor
   ·rintro(h| ⟨g,a,h⟩)
    ·exact .inl h
    ·exact .inr ⟨g,List.mem_cons_of_mem _ a,h⟩
   ·rintro(h| ⟨g,a,h,e⟩)
    ·exact .inl h
    ·rcases List.mem_cons.1 a with rfl|a
     ·omega
     ·exact .inr ⟨g,a,h,e⟩
  rw[iq h1];by_cases c:(f.kind==2)=true
  ·rw[ip c,lM];have b:f.kind=2:=by simpa using c
   have key:(s∈if(o.any λz=>z==f.out)=true then o else o++ [f.out])↔s∈o\/f.out=s:=by
    by_cases q:(o.any λz=>z==f.out)=true
    ·rw[ip q];constructor
     ·exact .inl
     ·rintro(h|rfl)
      ·exact h
      ·obtain⟨z,i,e⟩:=List.any_eq_true.1 q
       have:z=f.out:=by simpa using e
       rw[<-this];exact i
    ·rw[iq q];simp only[List.mem_append,List.mem_singleton];constructor
     ·rintro(h|rfl)
      ·exact .inl h
      ·exact .inr rfl
     ·rintro(h|rfl)
      ·exact .inl h
      ·exact .inr rfl
   rw[key];constructor
   ·rintro((h|h)| ⟨g,a,h⟩)
    ·exact .inl h
    ·exact .inr ⟨f,by simp,b,h⟩
    ·exact .inr ⟨g,List.mem_cons_of_mem _ a,h⟩
   ·rintro(h| ⟨g,a,h,e⟩)
    ·exact .inl (.inl h)
    ·rcases List.mem_cons.1 a with rfl|a
     ·exact .inl (.inr e)
     ·exact .inr ⟨g,a,h,e⟩
  ·rw[iq c,lM];have b:f.kind≠2:=by simpa using c
   constructor
   ·rintro(h| ⟨g,a,h⟩)
    ·exact .inl h
    ·exact .inr ⟨g,List.mem_cons_of_mem _ a,h⟩
   ·rintro(h| ⟨g,a,h,e⟩)
    ·exact .inl h
    ·rcases List.mem_cons.1 a with rfl|a
     ·exact absurd h b
     ·exact .inr ⟨g,a,h,e⟩
end
def Xm {l:List Int} {x:Int} :x∈pZ l↔x∈l:=by unfold pZ;rw[MZ Mc,kF]
section
variable {c:Cat} {fs:List Fac} {y:Cho} {I:List Nat}
def Tc {v:Vio} :v∈dR c fs y↔∃i:Nat,i<6/\v.row=(i:Int)/\∃l,j7 c fs (alS fs y) (zp y fs fs.length).O i l/\pZ (l.map λn:Nat=>(n:Int))=v.facts:=by
 rw[LI];constructor
 ·rintro⟨i,h1,a,z,d,e⟩;obtain⟨l,b,rfl⟩:=Tb.1 d;exact⟨i,h1,a,l,b,e⟩
 ·rintro⟨i,h1,a,l,b,e⟩;exact⟨i,h1,a,_,Tb.2 ⟨l,b,rfl⟩,e⟩
end
open Go.Proofs
variable {c:Cat}{fs:List Fac}{i:Nat}{b:Bool}{h0 h:Heap}{d:D}{K:D->Heap->Prop}
def LJ (h:(za c fs).2.2=0):(za c fs).2.1=tT fs []:=by
 unfold za at h⊢;by_cases q:(!((qn c fs).2==0))=true
 ·rw[ip q] at h
  have:(qn c fs).2≠0:=by simpa using q
  exact absurd h this
 ·rw[iq q] at h⊢;exact(oM h).2
def zFZ:Alt:=⟨[], .nilsl⟩
@[go_sem ↓] theorem zCL (i o:Nat):ze (.ptr i o)=some (.ptr i o):=(rfl)
@[go_sem ↓] theorem zBF (cs:List D) (o:Nat):ze (.iptr cs o)=some (.iptr cs o):=(rfl)
def Own.appI {t e:TypeId} {w:HidR K} (a:Own h0 h sz xs d) (m:qO P t=some e) (s:gB P e=true) (p:szT P e=sz) (A:0<sz) (l:∀y∈ys,y.length=sz) (k:zZ sz ys x)
  (v:(xs.length+ys.length)*ye P e<=lim) (z:xs.length+ys.length<=lim) (u:∀g h',Own h0 h' sz (xs++ys) g->K g h'):L4 (zu P false h.next t d x h) K w:=by
 have key:∀x,((x= .nilsl/\ys= [])\/(ys≠[]/\∃tk,x= .sl sz ys tk))->onR (zu P false h.next t d x h) K:=λx k=>
  a.2.1.app3 m s p A l k v z λg h' o n b tk c f=>u g h' ⟨⟨Nat.le_trans a.1.1 n,λi j=>by rw[b i (Nat.lt_of_lt_of_le j a.1.1) (λq=>by have:=a.2.2 i q;omega)];exact a.1.2 i j⟩,o,λi j=>Nat.le_trans a.1.1 (tk i j)⟩
 rcases k with⟨rfl,rfl⟩ | ⟨tk,rfl⟩
 ·exact key _ (.inl ⟨rfl,rfl⟩)
 ·by_cases r:ys= []
  ·subst r
   have:zu P false h.next t d (.sl sz [] tk) h=zu P false h.next t d .nilsl h:=by simp[zu,m,s,p,R7]
   show onR _ K;rw[this];exact key _ (.inl ⟨rfl,rfl⟩)
  ·exact key _ (.inr ⟨r,tk,rfl⟩)
open Go.Proofs.Tryz
abbrev tV (c:Cat) (fs:List Fac):List (List (List Trm)):=(za c fs).1
abbrev oV (c:Cat) (fs:List Fac):List (List UInt8):=(za c fs).2.1
structure Part where
 ts:List (List Trm)
 own:List (List UInt8)
def kN:List Trm->Alt
 | []=>zFZ
 |t::ts=>mkA (t::ts)
def VS (t:List Trm):(kN t).ts=t:=by cases t<;>rfl
def LK (t:List Trm):zZ 2 (yT t) (kN t).d:=by
 cases t
 ·exact zZ.nil
 ·exact zZ.mk .no
def kO (t:List Trm):yf [(kN t).d]:=by
 cases t
 ·exact⟨rfl,by simp[kN,zFZ,zf,below],rfl⟩
 ·exact lC _
def Zj (p:Part):Cho:=⟨p.ts.map kN,p.own⟩
abbrev tsD (p:Part):D:= .sl 1 (zj (p.ts.map kN)) .no
abbrev owD (p:Part):D:= .sl 1 (yR p.own) .no
def szV (c:Cat) (fs:List Fac) (v:Nat):Nat:=if v<(tV c fs).length then((tV c fs).getD v []).length else c.ls.length
def deV (c:Cat) (fs:List Fac) (p:Part) (v:Nat):Bool:=if v<(tV c fs).length then decide (0<(p.ts.getD v []).length) else !(p.own.getD (v- (tV c fs).length) []== [])
def ctV (c:Cat) (fs:List Fac):Nat:=(tV c fs).length+(oV c fs).length
def t6 (c:Cat) (fs:List Fac) (p:Part) (v k:Nat):Part:=if v<(tV c fs).length then⟨p.ts.set v (((tV c fs).getD v []).getD k []),p.own⟩ else⟨p.ts,p.own.set (v- (tV c fs).length) ((c.ls.map Lic.name).getD k [])⟩
def uC (c:Cat) (fs:List Fac) (p:Part) (v:Nat):Bool:=decide (1<szV c fs v)&& !(deV c fs p v)
def nxV (c:Cat) (fs:List Fac) (p:Part):Option Nat:=(List.range (ctV c fs)).find? (uC c fs p)
structure SpD (c:Cat) (fs:List Fac) (ca cb ce cp x td od:D):Prop where
 cat:yt c (.agg [ca,cb,ce,cp])
 sm:c.Sm
 x:zZ 12 (nb fs) x
 few:L5 fs
 ok:∀f∈fs,f.Ok
 v0:(za c fs).2.2=0
 t:zZ 1 (ZZ (tV c fs)) td
 o:zZ 1 (yR (oV c fs)) od
 tl:(tV c fs).length<=300
 ol:(oV c fs).length<=300
 t64:∀a∈tV c fs,a.length<=64/\AltsOk 64 a
structure POk (c:Cat) (fs:List Fac) (p:Part):Prop where
 tl:p.ts.length=(tV c fs).length
 ol:p.own.length=(oV c fs).length
 t:∀ (i:Nat) a,p.ts[i]? =some a->a= []\/a∈(tV c fs).getD i []
 o:∀s∈p.own,s= []\/∃x∈c.ls,x.name=s
section
variable {c:Cat} {fs:List Fac} {ca cb ce cp x td od:D}
def Td (a:List (List Trm)) (h:Heap):tU prog 30 (X0 a) h=some (.int .i64 a.length):=by
 have:=qW (l:=a.map mkA) (zZ.mk .no) h
 rwa [List.length_map] at this
def VU (S:SpD c fs ca cb ce cp x td od) (v:Nat) (g:Heap):zA prog 86 [.iptr [ca,cb,ce,cp,x,td,od] 0, .int .i64 (v:Int)] g λr h'=>h'=g/\r= .int .i64 (szV c fs v:Int):=by
 have k:=sw S.t;obtain⟨_,_,_,_,e,d,_,_,_⟩:=S.cat;cases e;have h:=qz d;have i:=Td;by_cases a:v<(tV c fs).length
 ·have f:decide ((v:Int)<((tV c fs).length:Int))=true:=decide_eq_true ow;have b:szV c fs v=(tV c fs)[v].length:=by unfold szV;rw[ip a,List.getD_eq_getElem?_getD,List.getElem?_eq_getElem a];rfl
  have j:=dF S.t a;rw[b];refine xO mix func86 zEp rfl rfl ?_;simp only[f86,gJ];exact au
 ·have f:decide ((v:Int)<((tV c fs).length:Int))=false:=decide_eq_false ow;have b:szV c fs v=c.ls.length:=by unfold szV;rw[iq a]
  rw[b];refine xO mix func86 zEp rfl rfl ?_;simp only[f86,gJ];exact au
def Te (S:SpD c fs ca cb ce cp x td od) (g:Heap):zA prog 118 [.iptr [ca,cb,ce,cp,x,td,od] 0] g λr h'=>h'=g/\r= .int .i64 (ctV c fs:Int):=by
 have b:=sw S.t;have a:=yK S.o;have d:IntKind.i64.wrap (((tV c fs).length:Int)+((oV c fs).length:Int))=(ctV c fs:Int):=by unfold ctV;have:=S.tl;have:=S.ol;rw[zd ow ow];omega
 refine xO mix func118 Bn rfl rfl ?_;simp only[f118,gJ];simp only[go_sem, *];refine zU kr ?_;exact au
variable {p:Part}
def R2 (S:SpD c fs ca cb ce cp x td od) (e:POk c fs p) {v:Nat} (o:v<ctV c fs) (g:Heap):zA prog 121 [.iptr [ca,cb,ce,cp,x,td,od] 0, .agg [tsD p,owD p], .int .i64 (v:Int)] g λr h'=>h'=g/\r= .bool (deV c fs p v):=by
 have s:=sw S.t;have n:=e.tl;have m:=e.ol;unfold ctV at o;have s1:=S.tl;have s2:=S.ol;by_cases b:v<(tV c fs).length
 ·have j:decide ((v:Int)<((tV c fs).length:Int))=true:=decide_eq_true ow;have a:v<p.ts.length:=by rw[e.tl];exact b
  have f:deV c fs p v=decide (((p.ts[v]).length:Int)>0):=by
   unfold deV;rw[ip b,List.getD_eq_getElem?_getD,List.getElem?_eq_getElem a];simp
  have h:=uz (l:=p.ts.map kN) (d:=tsD p) (zZ.mk .no) (i:=v) (by rw[List.length_map];exact a);rw[List.getElem_map] at h;have k:=yr (LK p.ts[v]);rw[f];generalize(kN p.ts[v]).d=q at *
  generalize p.ts[v]=t at *
  refine xO mix func121 Fh rfl rfl ?_;simp only[f121,gJ];exact au
 ·have j:decide ((v:Int)<((tV c fs).length:Int))=false:=decide_eq_false ow;have a:v- (tV c fs).length<p.own.length:=by rw[e.ol];omega
  have f:deV c fs p v= !((p.own[v- (tV c fs).length])== []):=by
   unfold deV;rw[iq b,List.getD_eq_getElem?_getD,List.getElem?_eq_getElem a];rfl
  have h:=wN (l:=p.own) (d:=owD p) (zZ.mk .no) a;have u:IntKind.i64.wrap ((v:Int)- ((tV c fs).length:Int))=((v- (tV c fs).length:Nat):Int):=by rw[zd ow ow];omega
  rw[f];generalize p.own[v- (tV c fs).length]=t at *
  refine xO mix func121 Fh rfl rfl ?_;simp only[f121,gJ];simp only[go_sem, *];refine zU kr ?_;exact au
def DI (S:SpD c fs ca cb ce cp x td od) (F:POk c fs p) (g:Heap):zA prog 85 [.iptr [ca,cb,ce,cp,x,td,od] 0, .agg [tsD p,owD p]] g λr h'=>h'=g/\r=(match nxV c fs p with
  |none=> .tuple [.int .i64 0, .bool false]
  |some v=> .tuple [.int .i64 (v:Int), .bool true]):=by
 have m:=Te S;have y:=VU S;have n:=λv G=>R2 S F (v:=v) G;have I:ctV c fs<=600:=by unfold ctV;have:=S.tl;have:=S.ol;omega
 refine xP λQ k=> ?_;refine xO mix func85 zGm rfl rfl ?_;simp only[f85,gJ]
 repeat' first|simp only[go_sem, *]|apply bc<;>intro l|(refine zA.mono (m _) ?_;rintro r h ⟨a,rfl⟩)
 subst a
 rename Heap=>g
 refine zD (λi fr h=>fr 0= .iptr [ca,cb,ce,cp,x,td,od] 0/\fr 3= .iptr [tsD p,owD p] 0/\fr 8= .int .i64 (ctV c fs:Int)/\fr 9= .int .i64 (i:Int)/\h=g/\∀j,j<i->uC c fs p j=false) (ctV c fs) ow ?_ ?_ ?_
 ·clear k;simp only[go_sem,true_and,and_true,Int.ofNat_zero];exact λj b=>by omega
 ·rintro i fr h e A H ⟨B,C,D,E,a,b⟩;subst a;have w:=y i;have f:=n i e;have d:decide ((szV c fs i:Int)>1)=decide (1<szV c fs i):=by
   by_cases q:1<szV c fs i
   ·rw[decide_eq_true q];exact decide_eq_true ow
   ·rw[decide_eq_false q];exact decide_eq_false ow
  have u:uC c fs p i=(decide (1<szV c fs i)&& !(deV c fs p i)):=rfl;cases o1:decide (1<szV c fs i) with
  |false=>
   have t:∀j,j<i+1->uC c fs p j=false:=λj h=>by
    rcases Nat.lt_succ_iff_lt_or_eq.1 h with q|rfl
    ·exact b j q
    ·rw[u,o1];rfl
   rw[o1] at d
   repeat' first|simp only[go_sem, *]|apply bc<;>intro l|(refine zA.mono (w _) ?_;rintro r h ⟨a,rfl⟩)
   exact t
  |true=>
  rw[o1] at d;cases o2:deV c fs p i with
  |true=>
   have t:∀j,j<i+1->uC c fs p j=false:=λj h=>by
    rcases Nat.lt_succ_iff_lt_or_eq.1 h with q|rfl
    ·exact b j q
    ·rw[u,o1,o2];rfl
   rw[o2] at f
   repeat' first|simp only[go_sem, *]|apply bc<;>intro l|(refine zA.mono (w _) ?_;rintro r h ⟨a,rfl⟩)|(refine zA.mono (f _) ?_;rintro r h ⟨a,rfl⟩)
   exact t
  |false=>
   have z:nxV c fs p=some i:=by
    unfold nxV;rw[List.find?_eq_some_iff_getElem];refine⟨by rw[u,o1,o2];rfl,i,by simpa using e,by simp,λj s=> ?_⟩;simp[b j s]
   rw[o2] at f;have a:=k (.tuple [.int .i64 (i:Int), .bool true]) h ⟨rfl,by rw[z]⟩
   repeat' first|simp only[go_sem, *]|apply bc<;>intro l|(refine zA.mono (w _) ?_;rintro r h ⟨a,rfl⟩)|(refine zA.mono (f _) ?_;rintro r h ⟨a,rfl⟩)
 ·rintro fr h A ⟨B,C,D,E,a,b⟩;subst a;have z:nxV c fs p=none:=by
   unfold nxV;rw[List.find?_eq_none];intro j o;rw[b j (List.mem_range.1 o)];exact Bool.false_ne_true
  have a:=k (.tuple [.int .i64 0, .bool false]) h ⟨rfl,by rw[z]⟩;exact au
end
def SlN (h:Heap) (N:Nat) (cs:List D) (n:Nat) (d:D):Prop:=(n=0/\d= .sl 1 [] .full)\/(n≠0/\d= .rs N 1 0 n/\h.at' N=some (.row cs))
def CN (h:Heap) (cs:List D) (n:Nat) (r:D) (h':Heap):Prop:=SlN h' h.next cs n r/\Ext h h'/\(n=0\/h.next<h'.next)
def SlN.flat {N:Nat} (s:SlN h N cs n d):d.flat=true:=by
 rcases s with⟨_,rfl⟩ | ⟨_,rfl,_⟩ <;>rfl
def SlN.set {N i:Nat} (s:SlN h N cs n d) (a:i≠N) (o:Obj):SlN (h.set i o) N cs n d:=by
 rcases s with s| ⟨s1,s2,b⟩
 ·exact .inl s
 ·exact .inr ⟨s1,s2,by rw[zE (λe=>a e.symm)];exact b⟩
def zH2 {a b r l:Nat} {c f:List D} {z A:D} {xa xb:List (List D)} (t:Ext g h) (H:SlN h a c r z) (M:SlN h b f l A) (m:a≠b) (F:g.next<=a) (G:g.next<=b)
  (N:∀x∈xa,yf x) (O:∀x∈xb,yf x) (I:∀x∈xa,x.length=1) (J:∀x∈xb,x.length=1) (v:xa.length=r) (w:xb.length=l) (C:c=xa.flatten) (E:f=xb.flatten)
  {Q R:D->Heap->Prop} (L:∀d h',Ext g h'->below g.next (zi d)->zi d= .agg [.sl 1 xa .no, .sl 1 xb .no]->Q d h') (u:∀d h',Q d h'\/(∃id cs,h'.at' id=some (.row cs)/\Q (frz id cs d) (h'.del id))->R d h'):
  R (.agg [z,A]) h\/∃id cs,h.at' id=some (.row cs)/\R (frz id cs (.agg [z,A])) (h.del id):=by
 have B:=λtk=>yB (sz:=1) N tk;have K:=λtk=>yB (sz:=1) O tk;have j:∀h' tk i,Ext g h'->Q (.agg [.sl 1 xa tk, .sl 1 xb i]) h':=λh' tk i e=>by
  have e2:zi (.agg [.sl 1 xa tk, .sl 1 xb i])= .agg [.sl 1 xa .no, .sl 1 xb .no]:=by
   show D.agg [zi _,zi _]=_;rw[(B tk).1,(K i).1]
  refine L _ _ e ?_ e2;rw[e2];exact⟨zx (zero_le _) _ (B tk).2,zx (zero_le _) _ (K i).2,trivial⟩
 have y:∀ {xs:List (List D)} {n:Nat},xs.length=n->n=0->xs= []:=λe e2=>length_eq_zero_iff.1 ow;rcases M with⟨q,rfl⟩ | ⟨q,rfl,o⟩
 ·have p:=y w q;subst p;rcases H with⟨s,rfl⟩ | ⟨s,rfl,k⟩
  ·have p:=y v s;subst p;exact .inl (u _ _ (.inl (j _ _ _ t)))
  ·refine .inl (u _ _ (.inr ⟨a,_,k,?_⟩));show Q (.agg [frz a c (.rs a 1 0 r),frz a c (.sl 1 [] .full)]) _;rw[bK I v C];exact j _ _ _ (t.del F)
 ·rcases H with⟨s,rfl⟩ | ⟨s,rfl,k⟩
  ·have p:=y v s;subst p;refine .inl (u _ _ (.inr ⟨b,_,o,?_⟩));show Q (.agg [frz b f (.sl 1 [] .full),frz b f (.rs b 1 0 l)]) _;rw[bK J w E];exact j _ _ _ (t.del G)
  ·refine .inr ⟨a,_,k,u _ _ (.inr ⟨b,_,by rw[yI (Ne.symm m)];exact o,?_⟩)⟩;have e1:frz a c (.agg [.rs a 1 0 r, .rs b 1 0 l])= .agg [.sl 1 xa .no, .rs b 1 0 l]:=by
    show D.agg [frz a c (.rs a 1 0 r),frz a c (.rs b 1 0 l)]=_;rw[bK I v C];simp only[frz];rw[iq (λq=>m q.1.symm)]
   rw[e1];show Q (.agg [frz b f (.sl 1 xa .no),frz b f (.rs b 1 0 l)]) _;rw[bK J w E,l8 _ _ _ (B .no).2];exact j _ _ _ ((t.del F).del G)
noncomputable def LL:Cfg:=⟨λt=>List.contains (α:=Nat) [7] t,λi=>(cn (α:=List (Nat×Fl)) [] i).getD []⟩
def zG2 (t:Tmp):LL.mu t=List.contains [7] t:=(rfl)
def zFa:zY prog LL f158=true:=by kernel_rfl
def zFb:zY prog LL f159=true:=by kernel_rfl
def CN.new (a:n≠0):CN h cs n (.rs h.next 1 0 n) (h.new h.next (.row cs)):=⟨.inr ⟨a,rfl,zK _ _ _⟩,(Ext.refl h).new (le_refl _) _, .inr (by rw[zF];omega)⟩
def CN.zero (h:Heap) (cs:List D):CN h cs 0 (.sl 1 [] .full) h:=⟨.inl ⟨rfl,rfl⟩,Ext.refl h, .inl rfl⟩
def br (l:List (List UInt8)):(yR l).flatten=l.map D.str:=by
 induction l with
 |nil=>rfl
 |cons x l a=>simp only[yR,map_cons,flatten_cons] at a⊢;rw[a];rfl
def LM {l:List Alt} (j:l.length<=1048576) (h:Heap):zA prog 158 [.sl 1 (zj l) tk] h (CN h (l.map Alt.d) l.length):=by
 refine xP λQ c=> ?_;have a:(zj l).length=l.length:=length_map ..;have f:pb prog .eql 30 true (.sl 1 (zj l) tk) .nilsl=some (.bool false):=by rw[wv (zZ.mk tk) underlying30];rfl
 have i:=λnid h=>qe (P:=prog) (nid:=nid) (h:=h) ym pv yp rfl rfl (by omega:0<1);have b:∃r h',zu prog true h.next 30 (.sl 1 [] .full) (.sl 1 (zj l) tk) h=some (r,h')/\CN h (l.map Alt.d) l.length r h':=by
  rw[tr ym wq yp ow (wA l) (by rw[qQ,a];unfold lim;omega) (by rw[a];unfold lim;omega),a,uU,fj underlying128];by_cases q:l.length=0
  ·rw[ip q,q];exact⟨_,_,rfl,CN.zero _ _⟩
  ·rw[iq q];exact⟨_,_,rfl,CN.new q⟩
 obtain⟨r,h',b,e⟩:=b;have hf:=c _ _ e;refine xO mix func158 zFa rfl rfl ?_;simp only[f158,gJ];simp only[qY,go_sem,zG2,f,i,b,hf]
def LN {l:List (List UInt8)} (j:l.length<=1048576) (h:Heap):zA prog 159 [.sl 1 (yR l) tk] h (CN h (l.map D.str) l.length):=by
 refine xP λQ c=> ?_;have a:=z7 l;have e:pb prog .eql 31 true (.sl 1 (yR l) tk) .nilsl=some (.bool false):=by rw[wv (zZ.mk tk) underlying31];rfl
 have i:=λnid h=>qe (P:=prog) (nid:=nid) (h:=h) yq nR uY rfl rfl (by omega:0<1);have b:∃r h',zu prog true h.next 31 (.sl 1 [] .full) (.sl 1 (yR l) tk) h=some (r,h')/\CN h (l.map D.str) l.length r h':=by
  rw[tr yq km uY ow (λx f=>by obtain⟨s,_,rfl⟩:=mem_map.1 f;rfl) (by rw[tB,a];unfold lim;omega) (by rw[a];unfold lim;omega),a,br,show uZ prog 9 (l.map D.str)= .row (l.map D.str) by simp[uZ,underlying9]];by_cases q:l.length=0
  ·rw[ip q,q];exact⟨_,_,rfl,CN.zero _ _⟩
  ·rw[iq q];exact⟨_,_,rfl,CN.new q⟩
 obtain⟨r,h',b,d⟩:=b;have hf:=c _ _ d;refine xO mix func159 zFb rfl rfl ?_;simp only[f159,gJ];simp only[qY,go_sem,zG2,e,i,b,hf]
abbrev tsK (p:Part) (tk:Tk):D:= .sl 1 (zj (p.ts.map kN)) tk
abbrev owK (p:Part) (tk:Tk):D:= .sl 1 (yR p.own) tk
variable {c:Cat}{fs:List Fac}{x:D}
def kP (a:k<c.ls.length):(c.ls.map Lic.name).getD k []=c.ls[k].name:=by
 rw[getD_eq_getElem?_getD,getElem?_map,getElem?_eq_getElem a];rfl
def DJ {t:List Trm} (h:t≠[]):kN t=mkA t:=by
 cases t
 ·exact absurd rfl h
 ·rfl
section
variable {c:Cat} {fs:List Fac} {ca cb ce cp x td od:D}
variable {p:Part}
theorem Xn {t1 t2:Tk} (S:SpD c fs ca cb ce cp x td od) (hp:POk c fs p) {v k:Nat} (hv:v<ctV c fs) (hk:k<szV c fs v) (g:Heap):zA prog 87 [.iptr [ca,cb,ce,cp,x,td,od] 0, .agg [tsK p t1,owK p t2], .int .i64 (v:Int), .int .i64 (k:Int)] g λr h'=>h'=g/\r= .agg [tsD (t6 c fs p v k),owD (t6 c fs p v k)]:=by
 refine xU kr λb9=>xS (zA.freezeOr (zA.freezeOr ?_));refine xP λR hR=> ?_;have E:∀ (h:Heap) a b nA nB Y Z j z,Ext g h->SlN h a Y nA j->SlN h b Z nB z->a≠b->g.next<=a->g.next<=b->(t6 c fs p v k).ts.length=nA->(t6 c fs p v k).own.length=nB->Y=((t6 c fs p v k).ts.map kN).map Alt.d->Z=(t6 c fs p v k).own.map D.str->R (.agg [j,z]) h:=λh a b nA nB Y Z j z hE mA mB bx ha hb lA lB cA cB=>by
  refine hR _ _ (zH2 (Q:=λd h'=>Ext g h'/\below g.next (zi d)/\zi d= .agg [tsD (t6 c fs p v k),owD (t6 c fs p v k)]) (xa:=zj ((t6 c fs p v k).ts.map kN)) (xb:=yR (t6 c fs p v k).own) hE mA mB bx ha hb (λx hx=> ?_) qF (wA _) (λx hx=> ?_) (by rw[zX,length_map,lA]) (by rw[z7,lB]) (by rw[uU,cA]) (by rw[br,cB]) (λd h' q1 q2 q3=>⟨q1,q2,q3⟩) (λd h' q=>q))
  ·obtain⟨a,ha,rfl⟩:=mem_map.1 hx;obtain⟨t,_,rfl⟩:=mem_map.1 ha;exact kO t
  ·obtain⟨s,_,rfl⟩:=mem_map.1 hx;rfl
 have hl:=sw S.t;have b4:∀a b:D,zM true 2 [a,b] 0=some (.agg [a,b]):=λa b=>zB rfl ow;have X:=LM (l:=p.ts.map kN) (tk:=t1) (by rw[length_map,hp.tl];have:=S.tl;omega);have ai:=LN (l:=p.own) (tk:=t2) (by rw[hp.ol];have:=S.ol;omega);rw[length_map] at X;obtain⟨G,hG,g5,g8,hE,bk⟩:∃G:Heap,(g.new g.next (.row [tsK p t1,owK p t2])).new (g.next+1) (.row [.nilsl, .nilsl])=G/\G.at' g.next=some (.row [tsK p t1,owK p t2])/\G.at' (g.next+1)=some (.row [.nilsl, .nilsl])/\Ext g G/\G.next=g.next+2:=
  ⟨_,rfl,by rw[zG ow,zK],zK _ _ _,((Ext.refl g).new (le_refl _) _).new ow _,zo _ (by rw[zF];exact le_refl _) _⟩
 have b3:(g.new g.next (.row [tsK p t1,owK p t2])).next=g.next+1:=zF _ _;have a8:∀h,HLe Heap.emp h:=λh i ob e=>by cases e
 clear hR;have cl:v<(tV c fs).length+(oV c fs).length:=hv;have z1:=S.tl;have z2:=S.ol;generalize ch:g.next=f at *
 have a6:HLe (Heap.one f (.row [tsK p t1,owK p t2])) G:=by rw[py];exact g5
 refine xO mix func87 zGP rfl rfl ?_;simp only[f87,gJ]
 repeat' first|simp only[go_sem, *]|apply bc<;>intro
 refine zO (Heap.one f (.row [tsK p t1,owK p t2])) [(0, .no,true),(1, .no,true),(3, .no,true),(4, .st,true),(2, .no,true),(6, .no,true),(5, .no,true),(7, .no,false),(8, .no,false),(9, .no,false)] kr kr a6 ?_
 repeat' first|simp only[go_sem,mf, *]|apply bc<;>intro
 refine(X _).mono ?_;rintro j V ⟨mA,e1,k1⟩;have b2:HLe (Heap.one f (.row [tsK p t1,owK p t2])) V:=by rw[py,e1.2 _ ow];exact g5
 have fA:=mA.flat;have b5:V.at' f=some (.row [tsK p t1,owK p t2]):=by rw[e1.2 _ ow];exact g5
 have b8:V.at' (f+1)=some (.row [.nilsl, .nilsl]):=by rw[e1.2 _ ow];exact g8
 clear X a6
 repeat' first|simp only[go_sem,mf, *]|apply bc<;>intro
 refine(ai _).mono ?_;rintro z I ⟨mB,e2,k2⟩;have cg:HLe (Heap.one f (.row [tsK p t1,owK p t2])) I:=by rw[py,e2.2 _ (by have:=e1.1;omega)];exact b5
 have fB:=mB.flat;have d5:I.at' f=some (.row [tsK p t1,owK p t2]):=by rw[e2.2 _ (by have:=e1.1;omega)];exact b5
 have d8:I.at' (f+1)=some (.row [.nilsl, .nilsl]):=by rw[e2.2 _ (by have:=e1.1;omega)];exact b8
 have cA:j.cells= [j]:=by rcases mA with⟨_,rfl⟩ | ⟨_,rfl,_⟩ <;>rfl
 have cB:z.cells= [z]:=by rcases mB with⟨_,rfl⟩ | ⟨_,rfl,_⟩ <;>rfl
 have cm:zP prog 30 (.ptr f 0) j I=some (I.set f (.row [j,owK p t2])):=by rw[zS d5 mQ (by simp) cA fA];rfl
 have b6:zP prog 31 (.ptr f 1) z (I.set f (.row [j,owK p t2]))=some (I.set f (.row [j,z])):=by rw[zS (zC _ _ _) Qw (by simp) cB fB,rI];rfl
 clear ai b2;have ak:Ext g I:=(hE.trans e1).trans e2;have bo:f+2<=G.next:=ow;have cf:G.next<=V.next:=e1.1;have bs:V.next<=I.next:=e2.1;clear hG bk b3 e1 b5 b8 g5 g8;have gK:∀i,f<=i->∀o,Ext g (I.set f o):=λi hi o=>ak.set ow _;have hK:=λo=>gK f (le_refl _) o;clear gK;obtain⟨C,au,q5,q8,qE,qk⟩:∃C,I.set f (.row [j,z])=C/\C.at' f=some (.row [j,z])/\C.at' (f+1)=some (.row [.nilsl, .nilsl])/\Ext g C/\∀i,i≠f->C.at' i=I.at' i:=
  ⟨_,rfl,zC _ _ _,by rw[zE ow];exact d8,hK _,λi hi=>zE hi⟩
 have a7:HLe (Heap.one f (.row [j,z])) C:=by rw[py];exact q5
 rw[au] at b6;have N:SlN C G.next (List.map Alt.d (List.map kN p.ts)) p.ts.length j:=by
  rcases mA with s| ⟨s1,s2,s3⟩
  ·exact .inl s
  ·exact .inr ⟨s1,s2,by rw[qk _ ow,e2.2 _ (k1.resolve_left s1)];exact s3⟩
 have T:SlN C V.next (List.map D.str p.own) p.own.length z:=by
  rcases mB with s| ⟨s1,s2,s3⟩
  ·exact .inl s
  ·exact .inr ⟨s1,s2,by rw[qk _ ow];exact s3⟩
 have J:p.ts.length=0\/G.next≠V.next:=by
  rcases k1 with s|s
  ·exact .inl s
  ·exact .inr ow
 generalize G.next=A at *
 generalize V.next=m at *
 clear mA mB au hK d8 d5 qk k1 k2 e2 bs hE ak;have cc:=b4;have U:∀H,H.at' (f+1)=some (.row [.nilsl, .nilsl])->zP prog 33 (.ptr (f+1) 0) (.agg [j,z]) H=some (H.set (f+1) (.row [j,z])):=λH h=>yM h Qx rfl (by simp) (by simp[fA,fB]);by_cases w:v<(tV c fs).length
 ·have hd:decide ((v:Int)<((tV c fs).length:Int))=true:=decide_eq_true ow;have M:v<p.ts.length:=by rw[hp.tl];exact w
  have F:p.ts.length≠0:=ow;obtain⟨_,rfl,a9⟩:=N.resolve_left λq=>F q.1;have W:=J.resolve_left F;have B:k<(tV c fs)[v].length:=by
   unfold szV at hk
   rwa [ip w,getD_eq_getElem?_getD,getElem?_eq_getElem w] at hk
  have L:t6 c fs p v k= ⟨p.ts.set v ((tV c fs)[v])[k],p.own⟩:=by
   unfold t6;rw[ip w,getD_eq_getElem?_getD,getD_eq_getElem?_getD,getElem?_eq_getElem w,Option.getD_some,getElem?_eq_getElem B];rfl
  have a1:=dF S.t w;have a2:=uz (l:=(tV c fs)[v].map mkA) (d:=X0 (tV c fs)[v]) (zZ.mk .no) (i:=k) (by rw[length_map];exact B);rw[getElem_map] at a2;have ad:=(S.t64 _ (getElem_mem w)).2.ts _ (getElem_mem B);have b1:=Mn ad.1 ow;have ht:=DJ ad.1;rw[L] at E;generalize((tV c fs)[v])[k]=t at *
  generalize(tV c fs)[v]=tv at *
  have a3:zQ prog 30 (.rs A 1 0 p.ts.length) (.int .i64 (v:Int))=some (.ptr A v):=by
   have:=z8 (P:=prog) (sz:=1) (id:=A) ym yp (k:= .i64) M
   rwa [Nat.mul_one] at this
  have ag:zP prog 128 (.ptr A v) (mkA t).d C=some (C.set A (.row ((List.map Alt.d (List.map kN p.ts)).set v (mkA t).d))):=zS a9 yp (by simp[M]) rfl rfl;obtain⟨n,K,r5,r8,rE,rN,O⟩:∃n,C.set A (.row ((List.map Alt.d (List.map kN p.ts)).set v (mkA t).d))=n/\n.at' f=some (.row [.rs A 1 0 p.ts.length,z])/\n.at' (f+1)=some (.row [.nilsl, .nilsl])/\Ext g n/\SlN n A ((List.map Alt.d (List.map kN p.ts)).set v (mkA t).d) p.ts.length (.rs A 1 0 p.ts.length)/\SlN n m (List.map D.str p.own) p.own.length z:=
   ⟨_,rfl,by rw[zE ow];exact q5,by rw[zE ow];exact q8,qE.set ow _, .inr ⟨F,rfl,zC _ _ _⟩,T.set W _⟩
  rw[K] at ag;have U:=U n r8;have a5:R (.agg [.rs A 1 0 p.ts.length,z]) (n.set (f+1) (.row [.rs A 1 0 p.ts.length,z])):=E _ A m _ _ _ _ _ _ (rE.set ow _) (rN.set ow _) (O.set ow _) W ow ow (by simp) rfl (by rw[map_set,map_set,ht]) rfl;clear E N T a9 rE rN O K ht ad J qE a8 hk B L
  repeat' first|simp only[go_sem,mf, *]|apply bc<;>intro
  refine zO (Heap.one f (.row [.rs A 1 0 p.ts.length,z])) [(0, .no,true),(1, .st,true),(2, .no,true),(3, .no,true),(4, .no,true),(5, .no,true),(6, .no,true),(7, .no,true),(8, .no,true),(9, .no,true),(10, .no,true),(11, .no,true),(12, .no,true),(13, .no,true),(14, .no,true),(15, .no,false)] kr kr a7 ?_
  repeat' first|simp only[go_sem,mf,zC, *]|apply bc<;>intro hc|(refine zA.mono (b1 _) ?_;rintro r h ⟨hq,rfl⟩)
 ·have hd:decide ((v:Int)<((tV c fs).length:Int))=false:=decide_eq_false ow;have M:v- (tV c fs).length<p.own.length:=by rw[hp.ol];omega
  have F:p.own.length≠0:=ow;obtain⟨_,rfl,ba⟩:=T.resolve_left λq=>F q.1;have B:k<c.ls.length:=by
   unfold szV at hk
   rwa [iq w] at hk
  have L:t6 c fs p v k= ⟨p.ts,p.own.set (v- (tV c fs).length) c.ls[k].name⟩:=by
   unfold t6;rw[iq w,kP B]
  obtain⟨_,_,_,_,e,ha,_,_,_⟩:=S.cat;cases e;have a1:=wx ha B;rw[L] at E;generalize c.ls[k]=y at *
  simp only[Lic.cells] at a1;have hw:IntKind.i64.wrap ((v:Int)- ((tV c fs).length:Int))=((v- (tV c fs).length:Nat):Int):=by rw[zd ow ow];omega
  generalize v- (tV c fs).length=u at *
  have a3:zQ prog 31 (.rs m 1 0 p.own.length) (.int .i64 (u:Int))=some (.ptr m u):=by
   have:=z8 (P:=prog) (sz:=1) (id:=m) yq uY (k:= .i64) M
   rwa [Nat.mul_one] at this
  have ag:zP prog 9 (.ptr m u) (.str y.name) C=some (C.set m (.row ((List.map D.str p.own).set u (.str y.name)))):=zS ba uY (by simp[M]) rfl rfl;have bb:∀o,SlN (C.set m o) (if p.ts.length=0 then m+1 else A) (List.map Alt.d (List.map kN p.ts)) p.ts.length j:=λo=>by
   by_cases q:p.ts.length=0
   ·rcases N with s|s
    ·exact .inl s
    ·exact absurd q s.1
   ·rw[iq q];exact N.set (Ne.symm (J.resolve_left q)) _
  have a0:(if p.ts.length=0 then m+1 else A)≠m/\f+2<=(if p.ts.length=0 then m+1 else A):=by
   by_cases q:p.ts.length=0
   ·rw[ip q];omega
   ·rw[iq q];exact⟨J.resolve_left q,bo⟩
  generalize(if p.ts.length=0 then m+1 else A)=NC at *
  obtain⟨a4,b7⟩:=a0;obtain⟨n,K,r5,r8,rE,rN,O⟩:∃n,C.set m (.row ((List.map D.str p.own).set u (.str y.name)))=n/\n.at' f=some (.row [j, .rs m 1 0 p.own.length])/\n.at' (f+1)=some (.row [.nilsl, .nilsl])/\Ext g n/\SlN n m ((List.map D.str p.own).set u (.str y.name)) p.own.length (.rs m 1 0 p.own.length)/\SlN n NC (List.map Alt.d (List.map kN p.ts)) p.ts.length j:=
   ⟨_,rfl,by rw[zE ow];exact q5,by rw[zE ow];exact q8,qE.set ow _, .inr ⟨F,rfl,zC _ _ _⟩,bb _⟩
  rw[K] at ag;have U:=U n r8;have a5:R (.agg [j, .rs m 1 0 p.own.length]) (n.set (f+1) (.row [j, .rs m 1 0 p.own.length])):=E _ NC m _ _ _ _ _ _ (rE.set ow _) (O.set ow _) (rN.set ow _) a4 ow ow rfl (by simp) rfl (by rw[map_set]);clear E N T bb ba rE rN O K J qE a8 hk B L
  repeat' first|simp only[go_sem,mf, *]|apply bc<;>intro
  refine zO (Heap.one f (.row [j, .rs m 1 0 p.own.length])) [(0, .no,false),(1, .no,false),(2, .no,false),(3, .no,false),(4, .no,false),(5, .no,false),(6, .no,false),(7, .no,false),(8, .no,false),(9, .no,false),(10, .no,false),(11, .no,false),(12, .no,false),(13, .no,false),(14, .no,false),(15, .no,false),(16, .no,false),(17, .no,false),(18, .no,false),(19, .no,false)] kr kr a7 ?_
  repeat' first|simp only[go_sem,mf,zC, *]|apply bc<;>intro
end
def yg (c:Cat) (fs:List Fac):Nat->Part
 |0=>⟨List.replicate (tV c fs).length [],List.replicate (oV c fs).length []⟩
 |n+1=>if szV c fs n=1 then t6 c fs (yg c fs n) n 0 else yg c fs n
def sn (c:Cat) (fs:List Fac):Part:=yg c fs (ctV c fs)
variable {c:Cat}{fs:List Fac}{p:Part}{x:D}
def POk.dec (b:POk c fs p) {v k:Nat} (d:k<szV c fs v):POk c fs (t6 c fs p v k):=by
 unfold t6;unfold szV at d;by_cases e:v<(tV c fs).length
 ·rw[ip e] at d⊢;refine⟨by simp[b.tl],b.ol,λi a h=> ?_,b.o⟩;rw[List.getElem?_set] at h;split at h
  ·rename_i q;subst q;split at h
   ·cases h;refine .inr ?_;rw[List.getD_eq_getElem?_getD (l:=(tV c fs).getD v []),List.getElem?_eq_getElem d];exact List.getElem_mem _
   ·cases h
  ·exact b.t i a h
 ·rw[iq e] at d⊢;refine⟨b.tl,by simp[b.ol],b.t,λs f=> ?_⟩;rcases List.mem_or_eq_of_mem_set f with h|rfl
  ·exact b.o s h
  ·rw[kP d];exact .inr ⟨_,List.getElem_mem _,rfl⟩
theorem sg (c:Cat) (fs:List Fac):∀n,POk c fs (yg c fs n)
 |0=>⟨by simp[yg],by simp[yg],λi a h=> .inl (by
   have:=List.mem_of_getElem? h;simp[yg] at this;exact this.2),λs h=> .inl (by simp[yg] at h;exact h.2)⟩
 |n+1=>by
  rw[yg];split
  ·rename_i h;exact(sg c fs n).dec ow
  ·exact sg c fs n
section
variable {c:Cat} {fs:List Fac} {ca cb ce cp x td od:D}
theorem DK (S:SpD c fs ca cb ce cp x td od) (g:Heap):zA prog 88 [.iptr [ca,cb,ce,cp,x,td,od] 0] g λr h'=>h'=g/\r= .agg [tsD (sn c fs),owD (sn c fs)]:=by
 refine xU kr λV=>xS ?_;refine xP λR T=> ?_;have N:=sg c fs;have j:∀ (h:Heap) k1 k2,Ext g h->R (.agg [tsK (sn c fs) k1,owK (sn c fs) k2]) h:=λh k1 k2 m=>by
  have Z:=yB (sz:=1) (xs:=zj ((sn c fs).ts.map kN)) (λx hx=>by
   obtain⟨a,J,rfl⟩:=List.mem_map.1 hx;obtain⟨t,_,rfl⟩:=List.mem_map.1 J;exact kO t)
  have sB:=yB (sz:=1) (xs:=yR (sn c fs).own) qF;have e2:zi (.agg [tsK (sn c fs) k1,owK (sn c fs) k2])= .agg [tsD (sn c fs),owD (sn c fs)]:=by
   show D.agg [zi _,zi _]=_;rw[(Z k1).1,(sB k2).1]
  refine T _ _ ⟨m,?_,e2⟩;rw[e2];exact⟨zx (Nat.zero_le _) _ (Z k1).2,zx (Nat.zero_le _) _ (sB k2).2,trivial⟩
 have hl:=sw S.t;have ag:=yK S.o;have z1:=S.tl;have z2:=S.ol;have K:=Te S;have u:=VU S;have n:=λ{k1 k2} i hi hk=>Xn (t1:=k1) (t2:=k2) S (N i) (v:=i) (k:=0) hi hk;have p:∀nid H,qP prog false nid 30 (.int .i64 ((tV c fs).length:Int)) (.int .i64 ((tV c fs).length:Int)) H=some (.sl 1 (List.replicate (tV c fs).length [.nilsl]) .full,H):=λnid H=>by
  simp only[qP,ym,pv,yp,Int.toNat_natCast,qQ];rw[ip (by simp[D.notTuple,D.cells];unfold lim;omega)];rfl
 have s:∀nid H,qP prog false nid 31 (.int .i64 ((oV c fs).length:Int)) (.int .i64 ((oV c fs).length:Int)) H=some (.sl 1 (List.replicate (oV c fs).length [.str []]) .full,H):=λnid H=>by
  simp only[qP,yq,nR,uY,Int.toNat_natCast,tB];rw[ip (by simp[D.notTuple,D.cells];unfold lim;omega)];rfl
 have X:D.sl 1 (List.replicate (tV c fs).length [.nilsl]) .full=tsK (yg c fs 0) .full:=by simp[tsK,yg,zj,kN,zFZ]
 have Y:D.sl 1 (List.replicate (oV c fs).length [.str []]) .full=owK (yg c fs 0) .full:=by simp[owK,yg,yR]
 rw[X] at p;rw[Y] at s;have au:∀a b:Tk,zt prog 33 [(0,tsK (yg c fs 0) a),(1,owK (yg c fs 0) b)]=some (.agg [tsK (yg c fs 0) a,owK (yg c fs 0) b]):=λa b=>by simp[zt,RE,KZ,qB,yU,D.notTuple,D.cells]
 have U:ctV c fs<=600:=by unfold ctV;omega
 have d:∀ (H:Heap) id a b O b',H.at' id=some (.row [O,b'])->a.flat=true->b.flat=true->zP prog 33 (.ptr id 0) (.agg [a,b]) H=some (H.set id (.row [a,b])):=λH id a b O b' h J U=>yM h Qx rfl (by simp) (by simp[J,U]);obtain⟨G,P,y,w,m,ad⟩:∃G:Heap,((g.new g.next (.row [.nilsl, .nilsl])).new (g.next+1) (.row [.nilsl, .nilsl])).set (g.next+1) (.row [tsK (yg c fs 0) .full,owK (yg c fs 0) .full])=G/\G.at' g.next=some (.row [.nilsl, .nilsl])/\G.at' (g.next+1)=some (.row [tsK (yg c fs 0) .full,owK (yg c fs 0) .full])/\Ext g G/\G.next=g.next+2:=
  ⟨_,rfl,by rw[zE ow,zG ow,zK],zC _ _ _,(((Ext.refl g).new (Nat.le_refl _) _).new ow _).set ow _,by rw[zT];exact zo _ (by rw[zF];exact Nat.le_refl _) _⟩
 have A:=d ((g.new g.next (.row [.nilsl, .nilsl])).new (g.next+1) (.row [.nilsl, .nilsl])) (g.next+1) (tsK (yg c fs 0) .full) (owK (yg c fs 0) .full) _ _ (zK _ _ _) rfl rfl;rw[P] at A;have ak:(g.new g.next (.row [.nilsl, .nilsl])).next=g.next+1:=zF _ _;have L:∀h,HLe Heap.emp h:=λh i ob e=>by cases e
 clear T X Y P;generalize ai:g.next=l at *
 refine xO mix func88 zGX rfl rfl ?_;simp only[f88,gJ]
 repeat' first|simp only[go_sem, *]|apply bc<;>intro B
 refine zO Heap.emp [(0, .no,true),(1, .no,true),(2, .no,true),(3, .st,true),(4, .no,true),(5, .no,true),(6, .no,true),(7, .no,true),(8, .no,true),(9, .st,true),(10, .no,true),(11, .no,true),(12, .no,true),(13, .no,true),(14, .no,true)] kr kr (L _) ?_
 repeat' first|simp only[go_sem, *]|apply bc<;>intro B
 refine(K _).mono ?_;rintro r H ⟨E,rfl⟩;subst E
 repeat' first|simp only[go_sem, *]|apply bc<;>intro B
 refine zD (λi fr h=>fr 0= .iptr [ca,cb,ce,cp,x,td,od] 0/\fr 2= .ptr l 0/\fr 3= .ptr (l+1) 0/\fr 19= .int .i64 (ctV c fs:Int)/\fr 20= .int .i64 (i:Int)/\h.at' l=some (.row [.nilsl, .nilsl])/\Ext g h/\∃k1 k2,h.at' (l+1)=some (.row [tsK (yg c fs i) k1,owK (yg c fs i) k2])) (ctV c fs) ow ?_ ?_ ?_
 ·clear j p s d;simp only[go_sem,true_and,and_true,Int.ofNat_zero,y];exact⟨m,_,_,w⟩
 ·clear y w m A p s;rintro i fr h M ec ew ⟨f0,f2,f3,F,I,y,m,k1,k2,w⟩;have W:=u i;have C:((szV c fs i:Int)==1)=decide (szV c fs i=1):=by
   by_cases q:szV c fs i=1
   ·rw[q];rfl
   ·rw[decide_eq_false q,beq_eq_false_iff_ne];omega
  have f:yg c fs (i+1)=if szV c fs i=1 then t6 c fs (yg c fs i) i 0 else yg c fs i:=rfl
  by_cases q:szV c fs i=1
  ·rw[decide_eq_true q] at C;rw[ip q] at f;have z:=n (k1:=k1) (k2:=k2) i M ow;rw[<-f] at z;have h0:((0:Nat):Int)=0:=rfl;rw[h0] at z;have st:=d h (l+1) (tsD (yg c fs (i+1))) (owD (yg c fs (i+1))) _ _ w rfl rfl;obtain⟨H,Q,q2,q3,qE⟩:∃H,h.set (l+1) (.row [tsD (yg c fs (i+1)),owD (yg c fs (i+1))])=H/\H.at' l=some (.row [.nilsl, .nilsl])/\(∃k1 k2,H.at' (l+1)=some (.row [tsK (yg c fs (i+1)) k1,owK (yg c fs (i+1)) k2]))/\Ext g H:=⟨_,rfl,by rw[zE ow];exact y,⟨.no, .no,zC _ _ _⟩,m.set ow _⟩;rw[Q] at st;clear n j u f Q h0 d q m
   repeat' first|simp only[go_sem, *]|apply bc<;>intro B|(refine zA.mono (W _) ?_;rintro r h ⟨E,rfl⟩)|(refine zA.mono (z _) ?_;rintro r h ⟨E,rfl⟩)
  ·rw[decide_eq_false q] at C;rw[iq q] at f;have q3:∃k1 k2,h.at' (l+1)=some (.row [tsK (yg c fs (i+1)) k1,owK (yg c fs (i+1)) k2]):=⟨_,_,by rw[f];exact w⟩;clear n j u d f w
   repeat' first|simp only[go_sem, *]|apply bc<;>intro B|(refine zA.mono (W _) ?_;rintro r h ⟨E,rfl⟩)
 ·clear y w m A p s;rintro fr h ec ⟨f0,f2,f3,F,I,y,m,k1,k2,w⟩;have st:=d h l (tsK (yg c fs (ctV c fs)) k1) (owK (yg c fs (ctV c fs)) k2) _ _ y rfl rfl;have hf:=j (h.set l (.row [tsK (yg c fs (ctV c fs)) k1,owK (yg c fs (ctV c fs)) k2])) k1 k2 (m.set ow _);unfold sn at hf;clear j n d u
  repeat' first|simp only[go_sem,zC, *]|apply bc<;>intro B
end
def zFc (c:Cat) (fs:List Fac) (ca cb ce cp x:D) (r:D):Prop:=(yn c fs≠0/\r= .tuple [.nilptr, .int .i64 (yn c fs)])\/(yn c fs=0/\∃td od,r= .tuple [.iptr [ca,cb,ce,cp,x,td,od] 0, .int .i64 0]/\SpD c fs ca cb ce cp x td od/\td.flat=true/\od.flat=true)
variable {c:Cat}{fs:List Fac}{x:D}
def j8 (h:yn c fs=0):(za c fs).2.2=0:=by
 unfold yn at h;split at h
 ·exact h
 ·rename_i q;simpa using q
def DL {ca cb ce cp x:D} (e:yt c (.agg [ca,cb,ce,cp])) (q:c.Sm) (n:zZ 12 (nb fs) x) (t:L5 fs) (d:∀f∈fs,f.Ok) (g:Heap):zA prog 29 [.agg [ca,cb,ce,cp],x] g λr h'=>h'=g/\zFc c fs ca cb ce cp x r:=by
 refine xP λQ u=> ?_;have K:=t.1.2;have a:=El e q n ow d;have j:=jz e q n ow d;obtain⟨z,A⟩:=oc (c:=c) (l:=fs);have s:=tN (c:=c) (l:=fs);obtain⟨⟨G,H⟩,I,J⟩:=dJ e;obtain⟨E,F,N⟩:=zJ n;have k:∀td od:D,td.cells= [td]->od.cells= [od]->td.notTuple=true->od.notTuple=true->zt prog 132 [(0, .agg [ca,cb,ce,cp]),(1,x),(2,td),(3,od)]=some (.agg [ca,cb,ce,cp,x,td,od]):=λtd od h1 b h3 v=>by simp[zt,WW,Q4,qB,yU,Yp,kp,E,F,h1,b,h3,v]
 unfold XT at a;cases m:(yn c fs==0) with
 |false=>
  have p:yn c fs≠0:=by simpa using m
  have i:=u (.tuple [.nilptr, .int .i64 (yn c fs)]) g ⟨rfl, .inl ⟨p,rfl⟩⟩;rw[iq (by rw[m];exact Bool.false_ne_true)] at a;refine xO mix func29 zDk rfl rfl ?_;simp only[f29,gJ]
  repeat' first|simp only[go_sem, *]|apply bc<;>intro e|(refine zA.mono (a _) ?_;rintro r h ⟨i,rfl⟩)
 |true=>
  have h0:yn c fs=0:=by simpa using m
  have v0:=j8 h0;rw[ip m] at a;rw[v0] at j;have o:∀td od,Fin 1 (ZZ (tV c fs)) td->Fin 1 (yR (oV c fs)) od->Q (.tuple [.iptr [ca,cb,ce,cp,x,td,od] 0, .int .i64 0]) g:=λtd od h1 b=>u _ _ ⟨rfl, .inr ⟨h0,td,od,rfl,⟨e,q,n,t,d,v0,h1.isSl,b.isSl,by unfold tV;omega,by unfold oV;omega,s⟩,(zJ h1.isSl).2.2,(zJ b.isSl).2.2⟩⟩;refine xO mix func29 zDk rfl rfl ?_;simp only[f29,gJ]
  repeat' first|simp only[go_sem, *]|apply bc<;>intro e|(refine zA.mono (a _) ?_;rintro r h ⟨i,rfl⟩)
  subst i;refine(j _).mono ?_;rintro r h ⟨i,td,od,rfl,h1,b⟩;subst i;obtain⟨w,y,L⟩:=zJ h1.isSl;obtain⟨B,C,M⟩:=zJ b.isSl;have k:=k td od w B y C;have i:=o td od h1 b;exact au
end Go.V
