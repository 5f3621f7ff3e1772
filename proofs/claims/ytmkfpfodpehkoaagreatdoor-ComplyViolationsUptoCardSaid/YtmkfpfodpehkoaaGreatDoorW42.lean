/- Contracts of functions that the law reaches, part 4. No condition. -/
import Derived.Test.YtmkfpfodpehkoaaGreatDoorW39
import Derived.Test.YtmkfpfodpehkoaaGreatDoorW41
set_option linter.all false
set_option maxHeartbeats 8000000
namespace Go.V
open Go.Proofs
set_option maxRecDepth 100000
structure SA where
 M:KM Int
 O:KV
 outs:List (List UInt8)
def lH(fs:List Fac)(i:Nat):Nat:=((fs.take i).filter λf=>f.kind==1).length
def lU(y:Cho)(k:Nat):Alt:=y.ts.getD k (mkA [])
def fx(y:Cho)(k:Nat):List UInt8:=y.own.getD k []
def BR(y:Cho)(fs:List Fac)(i:Nat)(s:SA):SA:=match fs[i]? with
 |none=>s
 |some f=>if(f.kind==1)=true then(if decide (((lU y (lH fs i)).ts.length:Int)>0)=true then⟨cq (i:Int) (lU y (lH fs i)).d s.M,s.O,s.outs⟩else s)
  else if(f.kind==2)=true then(if(s.outs.any λz=>z==f.out)=true then s else⟨s.M,if(!(fx y s.outs.length== []))=true then dp f.out (fx y s.outs.length) s.O else s.O,s.outs++ [f.out]⟩)else s
def yn(y:Cho)(fs:List Fac):Nat->SA
 |0=>⟨[],[],[]⟩
 |i+1=>BR y fs i (yn y fs i)
def alS(fs:List Fac)(y:Cho)(i:Nat):Option Alt:=match fs[i]? with
 |none=>none
 |some f=>if(f.kind==1)=true then(if decide (((lU y (lH fs i)).ts.length:Int)>0)=true then some (lU y (lH fs i))else none)else none
section
variable{y:Cho}{fs:List Fac}
variable{i:Nat}
def mc(h:i<fs.length):yn y fs (i+1)=if(fs[i].kind==1)=true then(if decide (((lU y (lH fs i)).ts.length:Int)>0)=true then⟨cq (i:Int) (lU y (lH fs i)).d (yn y fs i).M,(yn y fs i).O,(yn y fs i).outs⟩else yn y fs i)
  else if(fs[i].kind==2)=true then(if((yn y fs i).outs.any λz=>z==fs[i].out)=true then yn y fs i else⟨(yn y fs i).M,if(!(fx y (yn y fs i).outs.length== []))=true then dp fs[i].out (fx y (yn y fs i).outs.length) (yn y fs i).O else(yn y fs i).O,(yn y fs i).outs++ [fs[i].out]⟩)else yn y fs i:=by
 show BR y fs i (yn y fs i)=_;unfold BR;rw[zE h]
def Am(h:i<fs.length):alS fs y i=if(fs[i].kind==1)=true then(if decide (((lU y (lH fs i)).ts.length:Int)>0)=true then some (lU y (lH fs i))else none)else none:=by
 unfold alS;rw[zE h]
theorem W9:∀k,k<=fs.length->∀j:Nat,fZ (j:Int) (yn y fs k).M=if j<k then(alS fs y j).map Alt.d else none
 |0,_,j=>by simp[yn,fZ]
 |k+1,g,j=>by
  have c:=W9 k ow j;have b:k<fs.length:=ow;have f:=Am (y:=y) b;have key:fZ (j:Int) (yn y fs (k+1)).M=if j=k then(alS fs y k).map Alt.d else fZ (j:Int) (yn y fs k).M:=by
   rw[mc b,f];have a:j=k->fZ (j:Int) (yn y fs k).M=none:=λe=>by rw[c,iq ow]
   split
   ·split
    ·rw[To];by_cases e:j=k
     ·subst e;simp
     ·have:((j:Int)==(k:Int))=false:=by simp;omega
      rw[this,iq e];simp
    ·by_cases e:j=k
     ·rw[ip e,a e];rfl
     ·rw[iq e]
   ·split
    ·split
     ·by_cases e:j=k
      ·rw[ip e,a e];rfl
      ·rw[iq e]
     ·by_cases e:j=k
      ·rw[ip e,a e];rfl
      ·rw[iq e]
    ·by_cases e:j=k
     ·rw[ip e,a e];rfl
     ·rw[iq e]
  rw[key,c];by_cases e:j=k
  ·subst e;simp
  ·rw[iq e];by_cases e2:j<k
   ·rw[ip e2,ip ow]
   ·rw[iq e2,iq ow]
def RD(h:i<fs.length):(yn y fs (i+1)).outs=(yn y fs i).outs\/∃o,(yn y fs (i+1)).outs=(yn y fs i).outs++ [o]:=by
 rw[mc h];split
 ·split<;>exact .inl rfl
 ·split
  ·split
   ·exact .inl rfl
   ·exact .inr ⟨_,rfl⟩
  ·exact .inl rfl
theorem JM{i:Nat} :∀k,i+k<=fs.length->(yn y fs i).outs.length<=(yn y fs (i+k)).outs.length
 |0,_=>zD _
 |k+1,h=>by
  have a:=JM (i:=i) k ow;rcases RD (y:=y) (fs:=fs) (i:=i+k) ow with e| ⟨o,e⟩
  ·rw[<-wB,e];exact a
  ·rw[<-wB,e,zM];omega
theorem Wn:∀k,k<=fs.length->(yn y fs k).outs.length<=k
 |0,_=>zD _
 |k+1,h=>by
  have a:=Wn k ow;rcases RD (y:=y) (fs:=fs) (i:=k) ow with e| ⟨o,e⟩
  ·rw[e];omega
  ·rw[e,zM,ug];omega
def cx(h:i<fs.length):lH fs (i+1)=lH fs i+(if(fs[i].kind==1)=true then 1 else 0):=by
 unfold lH;rw[zH h,rC,zM];congr 1;by_cases e:(fs[i].kind==1)=true<;>simp[e]
theorem Qu{i:Nat} :∀k,i+k<=fs.length->lH fs i<=lH fs (i+k)
 |0,_=>zD _
 |k+1,h=>by
  have a:=Qu (i:=i) k ow;rw[<-wB,cx ow];omega
theorem aF:∀k,k<=fs.length->lH fs k<=k
 |0,_=>by simp[lH]
 |k+1,h=>by
  have a:=aF k ow;rw[cx ow];split<;>omega
end
def ln:List Fac->List (List UInt8)->List (List UInt8)
 | [],o=>o
 |f::fs,o=>if(f.kind==1)=true then ln fs o else if(f.kind==2)=true then ln fs (if(o.any λz=>z==f.out)=true then o else o++ [f.out])else ln fs o
theorem lK:∀(l:List Fac)(f:Fac)(o:List (List UInt8)),ln (l++ [f]) o=ln [f] (ln l o)
 | [],f,o=>rfl
 |g::l,f,o=>by
  by_cases h1:(g.kind==1)=true
  ·have e:∀m,ln (g::m) o=ln m o:=λm=>by rw[ln,ip h1]
   rw[z9,e,e,lK l f]
  ·by_cases a:(g.kind==2)=true
   ·have e:∀m,ln (g::m) o=ln m (if(o.any λz=>z==g.out)=true then o else o++ [g.out]):=λm=>by rw[ln,iq h1,ip a]
    rw[z9,e,e,lK l f]
   ·have e:∀m,ln (g::m) o=ln m o:=λm=>by rw[ln,iq h1,iq a]
    rw[z9,e,e,lK l f]
theorem cC{y:Cho}{fs:List Fac} :∀k,k<=fs.length->(yn y fs k).outs=ln (fs.take k) []
 |0,_=>rfl
 |k+1,h=>by
  have a:k<fs.length:=ow;have b:=cC (y:=y) (fs:=fs) k ow;rw[zH a,lK,<-b,mc a];simp only[ln];split
  ·split<;>rfl
  ·split
   ·split<;>rfl
   ·rfl
variable{c:Cat}{i id k:Nat}{fs:List Fac}{num:Int}{g:Heap}{al:Nat->Option Alt}{sc cap:List D}{S:Nat->Prop}
theorem gv:∀{l:List Fac}{t:List (List (List Trm))}{o:List (List UInt8)},(bl c l t o).2.2=0->(bl c l t o).1.length=t.length+(l.filter λf=>f.kind==1).length/\(bl c l t o).2.1=ln l o
 | [],t,o,_=>⟨rfl,rfl⟩
 |f::fs,t,o,h=>by
  rw[bl]at h⊢;by_cases h1:(f.kind==1)=true
  ·rw[ip h1]at h⊢;by_cases a:(nK c f.e==0)=true
   ·rw[ip a]at h⊢;obtain⟨b,d⟩:=gv h;refine⟨?_,by rw[d,ln,ip h1]⟩;rw[b,List.filter_cons_of_pos (by exact h1)];simp only[zM,zm,yw];omega
   ·rw[iq a]at h;exact absurd h (by simpa using a)
  ·rw[iq h1]at h⊢;by_cases a:(f.kind==2)=true
   ·rw[ip a]at h⊢;obtain⟨b,d⟩:=gv h;exact⟨by rw[b,kg (by exact h1)],by rw[d,ln,iq h1,ip a]⟩
   ·rw[iq a]at h⊢;obtain⟨b,d⟩:=gv h;exact⟨by rw[b,kg (by exact h1)],by rw[d,ln,iq h1,iq a]⟩
def YW{l:List Fac}(h:(uC c l).2=0):l.length<=256:=by
 unfold uC at h;split at h
 ·exact absurd h (by decide)
 ·split at h
  ·exact absurd h (by decide)
  ·rename_i q
   have:¬((l.length:Int)>256):=by simpa using q
   omega
structure ChoiceOk(c:Cat)(fs:List Fac)(y:Cho):Prop where
 case:(uC c fs).2=0
 lic:lH fs fs.length=y.ts.length
 outs:(yn y fs fs.length).outs.length=y.own.length
 okk:∀a∈y.ts,a.ts≠[]->a.Ok/\a.ts.length<=64
def YY{y:Cho}{p:Bool}(h:qR c fs y p=0)(r:y.Sm):ChoiceOk c fs y:=by
 unfold qR at h;split at h
 ·rename_i q;rw[h]at q;exact absurd q (by decide)
 ·rename_i B;have v0:(wZ c fs).2.2=0:=by simpa using B
  split at h
  ·exact absurd h (by decide)
  ·rename_i n;split at h
   ·rename_i q;rw[h]at q;exact absurd q (by decide)
   ·rename_i C;have o:ml (nk (wZ c fs).1 y.ts p) y.ts.length=0:=by simpa using C
    have m:=Rm (c:=c) (l:=fs);unfold wZ at v0 n o m;by_cases j:(!((uC c fs).2==0))=true
    ·rw[ip j]at v0;rw[v0]at j;exact absurd j (by decide)
    ·rw[iq j]at v0 n o m;obtain⟨v,w⟩:=gv v0;have u:(bl c fs [] []).1.length=y.ts.length/\(bl c fs [] []).2.1.length=y.own.length:=by
      simp only[yS,qF,qv,ne_eq,ZE,Decidable.not_not]at n;omega
     refine⟨by simpa using j,?_,?_,λa s g=> ?_⟩
     ·rw[<-u.1,v];simp[lH]
     ·rw[cC _ (zD _),zb,<-w];exact u.2
     ·obtain⟨i,t,rfl⟩:=yH.1 s;have:=jH o i t;unfold nk at this;rw[zE t]at this;simp only at this;have A:(((y.ts[i].ts.length:Int))==0)=false:=by
       have:=yF.2 g;simp;omega
      rw[A,qK,iq (by decide)]at this;split at this
      ·exact absurd this (by decide)
      ·rename_i q;have d:((bl c fs [] []).1.getD i []).any (λb=>cJ y.ts[i].ts b)=true:=by simpa using q
       obtain⟨b,f,x⟩:=yZ.1 d;have e:=(oX _ _).1 x;have key:y.ts[i].ts.length<=64->y.ts[i].Ok/\y.ts[i].ts.length<=64:=λq=>⟨⟨(r.ts _ s).sl,g,by omega⟩,q⟩;refine key ?_;rw[e];rw[zK]at f;cases k:(bl c fs [] []).1[i]? with
       |none=>rw[k]at f;cases f
       |some z=>
        rw[k]at f;have:=((m z (zh k)).2.ts b f).2;omega
open Go.Proofs.Tryz
structure CIn(c:Cat)(fs:List Fac)(y:Cho)(d x yd:D):Prop where
 cat:uM c d
 sm:c.Sm
 x:ye 12 (dj fs) x
 len:fs.length<=1048576
 few:fs.length<=24\/256<fs.length
 ok:∀f∈fs,f.Ok
 cho:ZR y yd
 ysm:y.Sm
section
variable{c:Cat}{fs:List Fac}{y:Cho}{d x yd:D}(I:CIn c fs y d x yd)
include I
def CIn.check(p:Bool)(g:Heap):zB prog 21 [d,x,yd,.bool p] g λr h'=>h'=g/\r=.int .i64 (qR c fs y p):=VZ I.cat I.sm I.x I.len I.ok I.cho I.ysm p g
def CIn.n16{p:Bool}(h:qR c fs y p=0):fs.length<=24:=by
 have:=YW (YY h I.ysm).case;rcases I.few with q|q
 ·exact q
 ·omega
end
variable{c:Cat}{fs:List Fac}
def Qb{l:List Fac}(h:(uC c l).2=0):qz c=0:=by
 unfold uC at h;by_cases h1:(!(qz c==0))=true
 ·rw[ip h1]at h;exact absurd h (by decide)
 ·simpa using h1
theorem MJ{l:List (List Int)}(h0:l≠[])(hl:l.length<=16777216)(ad:∀x∈l,x.length<=1048576)(J:g.at' id=some (.row (vbs num l).flatten)):
  zB prog 107 [.rs id 2 0 l.length,.fn (.func 30) [] []] g λr h'=>r=.rs id 2 0 (cpt tc l).length/\∃rest,h'=g.set id (.row ((vbs num (cpt tc l)).flatten++rest)):=by
 have a7:=λ(h:Heap)=>lz (P:=prog) (t:=36) (sz:=2) (id:=id) (off:=0) (len:=l.length) (h:=h) underlying36;have u:0<l.length:=yF.2 h0;have heq:∀x∈l,∀y∈l,∀H,zB prog 30 [.agg (LJ num x),.agg (LJ num y)] H λr h'=>h'=H/\r=.bool (tc x y==0):=λx S y T H=>by
  have:=Lq (Uh num (ad x S)) (Uh num (ad y T)) H;rw[Yf]at this;exact this
 have b:∀n,n<=l.length->(∀i (h:i+1<l.length),i+1<n->(tc l[i+1] l[i]==0)=false)->uv tc l n=l.take n:=λn hn hh=>by
  induction n with
  |zero=>rfl
  |succ n ih=>
   cases n with
   |zero=>rw[fH u,km];simp[s9,u]
   |succ k=>
    rw[pv ow,iq (by rw[hh k ow ow];exact zf),ih ow λi h1 L=>hh i h1 ow];exact(zH ow).symm
 refine xP λQ W=> ?_;have a:(∀i (h:i+1<l.length),i+1<l.length->(tc l[i+1] l[i]==0)=false)->Q (.rs id 2 0 l.length) g:=λhh=>W _ _ (by
  have e:cpt tc l=l:=by
   have:=b l.length (zD _) hh;rw[zb]at this;exact this
  rw[e];exact⟨rfl,[],by rw[zp,nh J]⟩)
 refine z5 Cw ?_;simp only[f107,zA];cases q1:decide ((l.length:Int)<2)with
 |true=>
  have hd:=a λi h1 L=>by have:=zg q1;omega
  clear a W
  repeat' first|simp only[go_sem, *]|apply bc<;>intro A
 |false=>
 repeat' first|simp only[go_sem, *]|apply bc<;>intro A
 refine qx (λi fr h=>fr 0=.rs id 2 0 l.length/\fr 1=.fn (.func 30) [] []/\fr 5=.int .i64 ((i+1:Nat):Int)/\h=g/\i+1<=l.length/\∀j (h:j+1<l.length),j+1<i+1->(tc l[j+1] l[j]==0)=false) l.length ?_ ?_
 ·simp only[go_sem,zQ,zS,zF];exact⟨rfl,u,λj h1 L=>by omega⟩
 rintro i fr k0 hi ⟨f0,f1,f5,rfl,ab,U⟩;by_cases s:i+1<l.length
 ·have e1:decide (((i+1:Nat):Int)<(l.length:Int))=true:=zN ow;have ew:IntKind.i64.wrap (((i+1:Nat):Int)+1)=((i+2:Nat):Int):=qT (by unfold lim;omega);have V:IntKind.i64.wrap (((i+1:Nat):Int)-1)=((i:Nat):Int):=by rw[qE ow ow];omega
  have a1:=wE (P:=prog) (sz:=2) (id:=id) wc tY (k:=.i64) s;have a2:=wE (P:=prog) (sz:=2) (id:=id) wc tY (k:=.i64) (show i<l.length by omega);have p1:=mB (lx num l) ow (show(vbs num l)[i+1]? =some (LJ num l[i+1]) by simp[vbs,s]);have p2:=mB (lx num l) ow (show(vbs num l)[i]? =some (LJ num l[i]) by simp[vbs,show i<l.length by omega]);have hq:=heq l[i+1] (zG s) l[i] (zG ow) k0;cases q:(tc l[i+1] l[i]==0)with
  |false=>
   rw[q]at hq;have hn:∀j (h:j+1<l.length),j+1<i+2->(tc l[j+1] l[j]==0)=false:=λj h1 L=>by
    by_cases e:j=i
    ·subst e;exact q
    ·exact U j h1 ow
   clear U a b q1 h0 q heq
   repeat' first|simp only[go_sem, *]|apply bc<;>intro A
   refine zd kr ?_
   repeat' first|simp only[go_sem, *]|apply bc<;>intro A|(refine zB.mono hq ?_;rintro r h ⟨O,rfl⟩)
   exact⟨by omega,s,hn⟩
  |true=>
   rw[q]at hq;have E:uv tc l (i+2)=l.take (i+1):=by
    rw[pv s,ip q,b (i+1) ow λj h1 L=>U j h1 L]
   have ak:=ph (P:=prog) (t:=36) (sz:=2) (id:=id) (h:=k0) dc wc tY (k:=.i64) ab;clear U a b q1 h0 q
   repeat' first|simp only[go_sem, *]|apply bc<;>intro A
   refine zd kr ?_
   repeat' first|simp only[go_sem, *]|apply bc<;>intro A|(refine zB.mono hq ?_;rintro r h ⟨O,rfl⟩)
   refine qx (λm fr h'=>fr 0=.rs id 2 0 l.length/\fr 1=.fn (.func 30) [] []/\fr 6=.rs id 2 ((i+1)*2) (l.length- (i+1))/\fr 7=.int .i64 ((m+1:Nat):Int)/\i+1+(m+1)<=l.length/\∃ys:List (List Int),ys.length=l.length/\h'=k0.set id (.row (vbs num ys).flatten)/\
    (uv tc l (i+2+m)).length<=i+1+m/\fr 5=.int .i64 (((uv tc l (i+2+m)).length:Nat):Int)/\ys.take (uv tc l (i+2+m)).length=uv tc l (i+2+m)/\ys.drop (i+1+m)=l.drop (i+1+m)) l.length ?_ ?_
   ·have B:(uv tc l (i+2)).length=i+1:=by rw[E,z7];omega
    have C:uv tc l (i+2+0)=uv tc l (i+2):=rfl;have v:i+1+(0+1)<=l.length/\∃ys:List (List Int),ys.length=l.length/\k0=k0.set id (.row (vbs num ys).flatten)/\
     (uv tc l (i+2+0)).length<=i+1+0/\D.int .i64 ((i+1:Nat):Int)=.int .i64 (((uv tc l (i+2+0)).length:Nat):Int)/\ys.take (uv tc l (i+2+0)).length=uv tc l (i+2+0)/\ys.drop (i+1+0)=l.drop (i+1+0):=
     ⟨by omega,l,rfl,(nh J).symm,by rw[C,B];omega,by rw[C,B],by rw[C,B,E],rfl⟩
    clear B C E;simp only[go_sem,zQ,zS,zF];obtain⟨r0,ys,r1,r2,r3,r4,r5,r6⟩:=v;exact⟨f0,f1,rfl,r0,ys,r1,r2,r3,f5.trans r4,r5,r6⟩
   clear E ak hq p1 p2 a1 a2 f0 f1 f5 e1 ew V;rintro m a9 L hm ⟨f0,f1,f6,f7,ba,ys,G,rfl,N,f5,o,f⟩;have w:(k0.set id (.row (vbs num ys).flatten)).at' id=some (.row (vbs num ys).flatten):=zi _ _ _;have a4:=λ(H:Heap)=>lz (P:=prog) (t:=36) (sz:=2) (id:=id) (off:=(i+1)*2) (len:=l.length- (i+1)) (h:=H) underlying36;by_cases ag:m+1<l.length- (i+1)
   ·have e1:decide (((m+1:Nat):Int)<((l.length- (i+1):Nat):Int))=true:=zN ow;have ew:IntKind.i64.wrap (((m+1:Nat):Int)+1)=((m+2:Nat):Int):=qT (by unfold lim;omega);have V:IntKind.i64.wrap (((m+1:Nat):Int)-1)=((m:Nat):Int):=by rw[qE ow ow];omega
    have a1:=sy (P:=prog) (sz:=2) (id:=id) (off:=(i+1)*2) wc tY (k:=.i64) ag;have a2:=sy (P:=prog) (sz:=2) (id:=id) (off:=(i+1)*2) wc tY (k:=.i64) (show m<l.length- (i+1) by omega);obtain⟨x,S⟩:∃x,l[i+1+m+1]? =some x:=⟨_,zE ow⟩;obtain⟨y,T⟩:∃y,l[i+1+m]? =some y:=⟨_,zE ow⟩;have g1:ys[i+1+(m+1)]? =some x:=by
     have:=congrArg (λz=>z[1]?) f;simp only[yh]at this;rw[show i+1+(m+1)=i+1+m+1 by omega,this,S]
    have g2:ys[i+1+m]? =some y:=by
     have:=congrArg (λz=>z[0]?) f;simp only[yh,wl]at this;rw[this,T]
    have cg:∀(k:Nat)(x:List Int),ys[k]? =some x->(vbs num ys)[k]? =some (LJ num x):=λk x e=>by simp[vbs,e]
    have p1:=jY (lx num ys) ow (cg _ _ g1);have p2:=jY (lx num ys) ow (cg _ _ g2);have d:uv tc l (i+2+(m+1))=if(tc x y==0)=true then uv tc l (i+2+m)else uv tc l (i+2+m)++ [x]:=by
     have:=Qe (c:=tc) S T;rw[show i+2+(m+1)=i+1+m+2 by omega,this,show i+2+m=i+1+m+1 by omega]
    have p:∀zs:List (List Int),zs.drop (i+1+m)=l.drop (i+1+m)->zs.drop (i+1+(m+1))=l.drop (i+1+(m+1)):=λzs e=>by
     have:=congrArg (List.drop 1) e;simpa [tI,wB]using this
    generalize hR:uv tc l (i+2+m)=R at *
    have F:=heq x (zh S) y (zh T) (k0.set id (.row (vbs num ys).flatten));cases q:(tc x y==0)with
    |true=>
     rw[q]at F;rw[ip q]at d;have v:m<l.length/\i+1+(m+1+1)<=l.length/\∃zs:List (List Int),zs.length=l.length/\k0.set id (.row (vbs num ys).flatten)=k0.set id (.row (vbs num zs).flatten)/\
      (uv tc l (i+2+(m+1))).length<=i+1+(m+1)/\D.int .i64 ((R.length:Nat):Int)=.int .i64 (((uv tc l (i+2+(m+1))).length:Nat):Int)/\zs.take (uv tc l (i+2+(m+1))).length=uv tc l (i+2+(m+1))/\zs.drop (i+1+(m+1))=l.drop (i+1+(m+1)):=
      ⟨by omega,by omega,ys,G,rfl,by rw[d];omega,by rw[d],by rw[d];exact o,p _ f⟩
     clear o f p d g1 g2 cg S T hR N q
     repeat' first|simp only[go_sem, *]|apply bc<;>intro A
     refine zd kr ?_
     repeat' first|simp only[go_sem, *]|apply bc<;>intro A|(refine zB.mono F ?_;rintro r h ⟨O,rfl⟩)
    |false=>
     rw[q]at F;rw[iq (by rw[q];exact zf)]at d;have X:R.length<l.length:=ow;have a3:=wE (P:=prog) (sz:=2) (id:=id) wc tY (k:=.i64) X;have a5:=Xs (P:=prog) (t:=42) w (lx num ys) ow tY (i:=R.length) (by rw[pf,G];exact X) (x:=LJ num x) rfl rfl;have K:(vbs num ys).set R.length (LJ num x)=vbs num (ys.set R.length x):=by rw[vbs,vbs,mr]
     rw[K,jP]at a5;have a8:IntKind.i64.wrap (((R.length:Nat):Int)+1)=((R.length+1:Nat):Int):=qT (by unfold lim;omega);have v:m<l.length/\i+1+(m+1+1)<=l.length/\∃zs:List (List Int),zs.length=l.length/\k0.set id (.row (vbs num (ys.set R.length x)).flatten)=k0.set id (.row (vbs num zs).flatten)/\
      (uv tc l (i+2+(m+1))).length<=i+1+(m+1)/\D.int .i64 ((R.length+1:Nat):Int)=.int .i64 (((uv tc l (i+2+(m+1))).length:Nat):Int)/\zs.take (uv tc l (i+2+(m+1))).length=uv tc l (i+2+(m+1))/\zs.drop (i+1+(m+1))=l.drop (i+1+(m+1)):=by
      have M:(R++ [x]).length=R.length+1:=by simp
      refine⟨by omega,by omega,ys.set R.length x,by simpa using G,rfl,by rw[d,M];omega,by rw[d,M],?_,?_⟩
      ·rw[d,M,zH (by rw[rK];omega),om,mG (zD _),o]
      ·rw[mF ow];exact p _ f
     clear o f p d g1 g2 cg S T hR N q K
     repeat' first|simp only[go_sem, *]|apply bc<;>intro A
     refine zd kr ?_
     repeat' first|simp only[go_sem, *]|apply bc<;>intro A|(refine zB.mono F ?_;rintro r h ⟨O,rfl⟩)
   ·have e1:decide (((m+1:Nat):Int)<((l.length- (i+1):Nat):Int))=false:=zO ow;have ai:i+2+m=l.length:=ow;have Y:uv tc l (i+2+m)=cpt tc l:=by rw[ai];rfl
    rw[Y]at o f5 N;have I:(cpt tc l).length<=l.length:=lD _;have ak:=λ(H:Heap)=>ph (P:=prog) (t:=36) (sz:=2) (id:=id) (h:=H) dc wc tY (k:=.i64) I;have bb:=λ(H:Heap)=>nB (P:=prog) (t:=36) (h:=H) dc wc (id:=id) (sz:=2) tY (k:=.i64) I;obtain⟨rest,Z⟩:=Xo (P:=prog) (sz:=2) (t:=36) wc ja rfl rfl w (lx num ys) (n:=(cpt tc l).length) (by rw[pf];omega);have a0:(vbs num ys).take (cpt tc l).length=vbs num (cpt tc l):=by rw[vbs,<-nW,o];rfl
    rw[a0,jP,pf,G]at Z;have a6:=W (.rs id 2 0 (cpt tc l).length) (k0.set id (.row ((vbs num (cpt tc l)).flatten++rest))) ⟨rfl,rest,rfl⟩;clear o f ai Y a0 W;exact au
 ·have e1:decide (((i+1:Nat):Int)<(l.length:Int))=false:=zO ow;have hd:=a λj h1 L=>U j h1 ow;clear U a b q1 h0 W;exact au
def DQ(g:Heap):zB prog 215 [.nilsl,.int .i64 0,.int .i64 0,.fn (.func 69) [] []] g λ_ h'=>h'=g:=by
 have f:IntKind.i64.wrap (0+1)=1:=rfl;have c:decide ((1:Int)<0)=false:=rfl;refine z5 zDY ?_;simp only[f215,zA];simp only[go_sem, *];refine qx (λj fr a=>fr 2=.int .i64 0/\fr 8=.int .i64 1/\a=g) 0 ?_ ?_
 ·simp only[go_sem,zQ,zS,zF]
 rintro j b a _ ⟨d,e,rfl⟩;exact au
def DY(m:Int)(g:Heap):zB prog 157 [.nilsl,.int .i64 0,.int .i64 0,.int .i64 m,.fn (.func 69) [] []] g λ_ h'=>h'=g:=by
 have k:IntKind.i64.wrap (0-0)=0:=rfl;have c:decide ((0:Int)<=12)=true:=rfl;have i:=DQ;refine z5 zDI ?_;simp only[f157,zA];simp only[go_sem, *];refine qx (λj fr a=>fr 0=.nilsl/\fr 1=.int .i64 0/\fr 2=.int .i64 0/\fr 4=.fn (.func 69) [] []/\a=g) 0 ?_ ?_
 ·simp only[go_sem,zQ,zS,zF]
 rintro j b a _ ⟨d,e,f,h,rfl⟩;exact au
def HK(g:Heap):zB prog 106 [.nilsl,.fn (.func 69) [] []] g λ_ h'=>h'=g:=by
 have b:oc prog 3 210 (.int .i64 0)=some (.int .u64 0):=kr;have a:=U7 (n:=0) ow;have e:=λm=>DY m;have d:∀h,js prog 36 .nilsl h=some (.int .i64 0):=λh=>uV (ye.nil (sz:=2)) underlying36;simp only[zF]at a;refine z5 zC0 ?_;simp only[f106,zA]
 repeat' first|simp only[go_sem, *]|apply bc<;>intro c|refine zB.use (a _) ?_
def QJ(g:Heap):zB prog 107 [.nilsl,.fn (.func 30) [] []] g λr h'=>h'=g/\r=.nilsl:=by
 have b:∀h,js prog 36 .nilsl h=some (.int .i64 0):=λh=>uV (ye.nil (sz:=2)) underlying36;have a:decide ((0:Int)<2)=true:=rfl;refine z5 Cw ?_;simp only[f107,zA];exact au
def QK{l:List (List Int)}(h0:l≠[])(c:l.length<=16777216)(b:∀x∈l,x.length<=1048576)(a:g.at' id=some (.row (vbs num l).flatten)):
  zB prog 107 [.rs id 2 0 l.length,.fn (.func 30) [] []] g λr h'=>h'=g.del id/\r=.sl 2 (vbs num (cpt tc l)) .no:=
 zB.freezeD ((MJ h0 c b a).mono (by
  rintro r h' ⟨rfl,rest,rfl⟩;exact⟨id,_,zi _ _ _,by rw[Qj],aB (lx num _) (pf num _) rfl⟩))
def JX(s:D):Nat->D
 |0=>.fn (.func 149) [s] []
 |1=>.fn (.func 150) [s] []
 |2=>.fn (.func 151) [s] []
 |3=>.fn (.func 152) [s] []
 |4=>.fn (.func 153) [s] []
 |_=>.fn (.func 154) [s] []
def d9(c:Cat)(fs:List Fac)(al:Nat->Option Alt)(O:KV):Nat->List (List Int)
 |0=>(qj fs al).flatMap (sU c fs al)
 |1=>(qj fs al).flatMap (pa c fs al O)
 |2=>(qj fs al).flatMap (gN c fs al)
 |3=>(qj fs al).flatMap (rn c fs al)
 |4=>(fp fs).flatMap (lm fs O)
 |_=>aI c fs
def sW(s:D)(i:Nat):List D:=[.int .i64 (i:Int),JX s i]
def AC(s:D):List (List D):=[sW s 0,sW s 1,sW s 2,sW s 3,sW s 4,sW s 5]
def GC(s:D):∀i,i<6->(AC s)[i]? =some (sW s i)
 |0,_=>rfl
 |1,_=>rfl
 |2,_=>rfl
 |3,_=>rfl
 |4,_=>rfl
 |5,_=>rfl
 |n+6,h=>by omega
def aE:∀{a:List D},a.length=2->∃x y,a= [x,y]
 | [x,y],_=>⟨x,y,rfl⟩
def zAA(sc:List D)(h:Heap):zB prog 101 [.iptr sc 0] h λr h'=>h'=h/\r=.sl 2 (AC (.iptr sc 0)) .full:=by
 refine z5 zCw ?_;simp only[f101,zA];have g:∀(i:Int)(f:FuncId),wO prog 171 [(0,.int .i64 i),(1,.fn (.func f) [.iptr sc 0] [])]=some (.agg [.int .i64 i,.fn (.func f) [.iptr sc 0] []]):=λi f=>by
  simp[wO,Q6,Rw,tp,uG,D.cells,D.notTuple]
 have n:∀a b c d e f:List D,a.length=2->b.length=2->c.length=2->d.length=2->e.length=2->f.length=2->yB prog false h.next 167 6 [(0,.agg a),(1,.agg b),(2,.agg c),(3,.agg d),(4,.agg e),(5,.agg f)] h=some (.sl 2 [a,b,c,d,e,f] .full,h):=λa b c d e f j g k l m hf=>by
  obtain⟨o,p,rfl⟩:=aE j;obtain⟨q,b2,rfl⟩:=aE g;obtain⟨s,t,rfl⟩:=aE k;obtain⟨u,v,rfl⟩:=aE l;obtain⟨e1,e2,rfl⟩:=aE m;obtain⟨w,x,rfl⟩:=aE hf;simp[yB,TX,Rw,PT,D.notTuple,D.cells,nz,tp,uG,wY,lim]
 simp only[go_sem,g];rw[n _ _ _ _ _ _ rfl rfl rfl rfl rfl rfl];simp only[go_sem];rfl
def zF4{M:KM Int}{O:KV}{m1 m2:Nat}(e:Stt c fs al M O sc m1 m2)(d:fs.length<=24)
  {h:FuncId} {Y:List (List Int)->(Nat->Prop)->Heap->Prop} (y:Fnd2 prog 5 h cap Y) {w:Heap} (b:Y [] S w) (a:StH M O m1 m2 w) (f:¬S m1) (g:¬S m2):∀i,i<6->
  ao prog (JX (.iptr sc 0) i) [.fn (.func h) [] cap] w λ_ h'=>∃S',(∀i,S' i->S i\/w.next<=i)/\But S w h'/\Y (d9 c fs al O i) S' h':=by
 intro i j;rcases i with _|_|_|_|_|_|i
 ·exact I3 e d y b a f g
 ·exact Dj e d y b a f g
 ·exact Aw e d y b a f g
 ·exact DH e d y b a f g
 ·exact Ay e d y b a f g
 ·exact Az e d y b a f g
 ·omega
def mo(c:Cat)(fs:List Fac)(al:Nat->Option Alt)(O:KV)(i:Nat):List (List Int):=cpt tc (srt tc ((d9 c fs al O i).map wa))
def IZ(c:Cat)(fs:List Fac)(al:Nat->Option Alt)(O:KV)(i:Nat):D:=if d9 c fs al O i= []then .nilsl else .sl 2 (vbs (i:Int) (mo c fs al O i)) .no
def GB{O:KV}(b:fs.length<=24)(i:Nat):(d9 c fs al O i).length<=16777216:=by
 have d:=oT (al:=al) b;have a:∀{α:Type}{l:List α}{f:α->List (List Int)}{m n:Nat},l.length<=n->(∀x∈l,(f x).length<=m)->n*m<=16777216->(l.flatMap f).length<=16777216:=λh1 e h3=>za (tU e) (za (yW _ h1) h3);unfold d9;split
 ·exact a (m:=1) d (λt _=>by unfold sU;split<;>simp) ow
 ·exact a (m:=1) d (λt _=>by
   unfold pa;split
   ·simp
   ·split<;>simp) ow
 ·exact a (m:=24) d (λt _=>Yz c b al t) ow
 ·exact a (m:=4096) d (λt _=>bp c b al t) ow
 ·exact a (m:=24) (n:=24) (za (tW _ fs 0) b) (λt _=>XI b O t) ow
 ·unfold aI;split
  ·simp
  ·exact a (m:=1) (n:=24) (za (tW _ fs 0) b) (λt _=>zD _) ow
def bD(l:List Int):(wa l).length<=l.length:=za (lD _) (Nat.le_of_eq (tF l).length_eq)
def RU{O:KV}(i:Nat):∀l∈d9 c fs al O i,l.length<=5:=by
 intro l a;unfold d9 at a;split at a
 ·obtain⟨t,_,h⟩:=zw.1 a;unfold sU at h;split at h
  ·rw[zY.1 h];simp
  ·cases h
 ·obtain⟨t,_,h⟩:=zw.1 a;unfold pa at h;split at h
  ·cases h
  ·split at h
   ·rw[zY.1 h];simp
   ·cases h
 ·obtain⟨t,_,h⟩:=zw.1 a;obtain⟨k,_,h⟩:=zw.1 h;unfold dw at h;split at h
  ·rw[zY.1 h];simp
  ·cases h
 ·obtain⟨t,_,h⟩:=zw.1 a;unfold rn at h;split at h
  ·obtain⟨r,_,h⟩:=zw.1 h;unfold nQ at h;split at h
   ·rw[zY.1 h];simp
   ·cases h
  ·cases h
 ·obtain⟨t,_,h⟩:=zw.1 a;unfold lm at h;split at h
  ·cases h
  ·split at h
   ·cases h
   ·obtain⟨r,_,h⟩:=zw.1 h;rw[zY.1 h];simp
 ·unfold aI at a;split at a
  ·cases a
  ·obtain⟨r,_,h⟩:=zw.1 a;rw[zY.1 h];simp
def N0(sc:List D):D:=.fn (.func 100) [] [.iptr [.iptr sc 0] 0]
def aw(sc:List D)(g:Heap):zB prog 56 [.iptr sc 0] g λr h'=>h'=g/\r=N0 sc:=by
 refine z5 zJL ?_;simp only[f56,zA];simp only[go_sem,N0, *]
def J8(num:Int)(l:List (List Int)):l.map (WO num)=vbs num (l.map wa):=by
 unfold vbs;rw[qm];rfl
theorem cS{M:KM Int}{O:KV}{m1 m2:Nat}(hs:Stt c fs al M O sc m1 m2)(hn:fs.length<=24){Y:Nat->(Nat->Prop)->Heap->Prop}{Z:(Nat->Prop)->Heap->Prop}(y:Yld prog id 6 (λi=>[IZ c fs al O i]) Y Z){w:Heap}(hY:Y 0 S w)(v:StH M O m1 m2 w)(n1:¬S m1)(n2:¬S m2):
  zB prog 100 [.yld id,.iptr [.iptr sc 0] 0] w λ_ h'=>∃S',(∀j,S' j->S j\/w.next<=j)/\But S w h'/\(Y 6 S' h'\/Z S' h'):=by
 have V:=zAA sc;have a7:∀h,js prog 167 (.sl 2 (AC (.iptr sc 0)) .full) h=some (.int .i64 6):=λh=>uV (ye.mk (sz:=2) (xs:=AC (.iptr sc 0)) .full) underlying167;refine z5 zCv ?_;simp only[f100,zA]
 repeat' first|simp only[go_sem, *]|apply bc<;>intro hc|(refine zB.mono (V _) ?_;rintro r h ⟨u,rfl⟩)
 subst u
 rename Heap=>w
 refine qx (λi fr h'=>fr 0=.yld id/\fr 1=.iptr [.iptr sc 0] 0/\fr 7=.sl 2 (AC (.iptr sc 0)) .full/\fr 8=.int .i64 6/\fr 9=.int .i64 (i:Int)/\∃S',(∀j,S' j->S j\/w.next<=j)/\But S w h'/\Y i S' h') 6 ?_ ?_
 ·have G:∃S',(∀j,S' j->S j\/w.next<=j)/\But S w w/\Y 0 S' w:=⟨S,λj n=>.inl n,But.refl S w,hY⟩;simp only[go_sem,zQ,zS,zF];exact G
 rintro i fr h1 K ⟨I,f1,f7,f8,f9,S',J,b,t⟩;by_cases o:i<6
 ·have e1:decide ((i:Int)<6)=true:=zN ow;have ew:IntKind.i64.wrap ((i:Int)+1)=((i+1:Nat):Int):=qT (by unfold lim;omega);have hw:yN true 2 (sW (.iptr sc 0) i) 0=some (.agg (sW (.iptr sc 0) i)):=zJ rfl ow;have G:∀(h:Heap)(id:Nat),qP prog 171 (.ptr id 0) (.agg (sW (.iptr sc 0) i)) (h.new id (.row [.int .i64 0,.nilfn]))=some (h.new id (.row (sW (.iptr sc 0) i))):=λh id=>qk PT ow rfl rfl (by rcases i with _|_|_|_|_|i<;>rfl);have ha:yP prog 167 (.sl 2 (AC (.iptr sc 0)) .full) (.int .i64 (i:Int))=some (.iptr (sW (.iptr sc 0) i) 0):=qA (ye.mk (sz:=2) _) TX PT (GC _ _ o)
  have ai:(sW (.iptr sc 0) i)[1]? =some (JX (.iptr sc 0) i):=rfl;have a6:=b.1;obtain⟨H,ab,a5,a2,a1,hE⟩:∃H:Heap,(h1.new h1.next (.row (sW (.iptr sc 0) i))).new (h1.next+1) (.row [.nilsl])=H/\H.next=h1.next+2/\H.at' h1.next=some (.row (sW (.iptr sc 0) i))/\H.at' (h1.next+1)=some (.row [.nilsl])/\Ext h1 H:=
   ⟨_,rfl,qW _ (by rw[yA];exact zD _) _,by rw[zz ow,yQ],yQ _ _ _,((Ext.refl h1).new (zD _) _).new ow _⟩
  have m:But S w H:=b.trans (hE.but S) λi K=>.inl K;have B:StH M O m1 m2 H:=⟨⟨by rw[m.2 _ v.2.1 n1];exact v.1.1,by rw[m.2 _ v.2.2 n2];exact v.1.2⟩,by have:=v.2.1;omega,by have:=v.2.2;omega⟩;have Y0:YVf (i:Int) (JX (.iptr sc 0) i) (h1.next+1) h1.next [] (λj=>j=h1.next+1\/j=h1.next) H:=⟨by omega,by omega,by omega,a2,.nilsl,a1,.inl ⟨rfl,rfl⟩,λe=>e,λe=>e,λj=>⟨λe=>e.elim .inl λe=>.inr (.inl e),λe=>e.elim .inl λe=>e.elim .inr λe=>e.elim⟩⟩;have N:=zF4 hs hn (Hd (num:=(i:Int)) (fn:=JX (.iptr sc 0) i) (nl:=h1.next+1) (nr:=h1.next)) Y0 B (λe=>by have:=v.2.1;omega) (λe=>by have:=v.2.2;omega) i o
  clear B m Y0
  repeat' first|simp only[go_sem,yA, *]|apply bc<;>intro
  refine ao.mono ?_ N;rintro r p ⟨S2,s2,b2,w1,w2,w3,w4,d2,X,w6,w7,w8,w9⟩;have a4:=b2.1;have A:∀j,j<h1.next->p.at' j=h1.at' j:=λj n=>by rw[b2.2 j ow ow,hE.2 j n]
  rw[J8]at w6;have ag:=GB (c:=c) (al:=al) (O:=O) hn i;have ad:=RU (c:=c) (fs:=fs) (al:=al) (O:=O) i;clear N G ha hw ai ab e1;rcases w6 with⟨rfl,e⟩ | ⟨k,rfl,g1,g2,g3⟩
  ·have e0:d9 c fs al O i= []:=by simpa [vbs]using e
   have hv:IZ c fs al O i=.nilsl:=by unfold IZ;rw[ip e0]
   have q:Ext h1 p:=⟨by omega,A⟩;have s:=y.go i S' p o (y.ext t q);have d:∀(l:Nat->Prop)(h5:Heap),(∀j,l j->S' j\/p.next<=j)->But S' p h5->(∀j,l j->S j\/w.next<=j)/\But S w h5:=λl h5 f g=>⟨λj n=>by
    rcases f j n with n|n
    ·exact J j n
    ·exact .inr ow,(b.trans (q.but S) λi K=>.inl K).trans g J⟩
   simp only[hv]at s;simp only[go_sem,X,I];refine(HK p).mono ?_;rintro r h3 u;subst u;simp only[go_sem,X,I];refine(QJ h3).mono ?_;rintro r h4 ⟨u,rfl⟩;subst u;refine s.mono ?_;rintro r h5 ⟨l,f,g,⟨rfl,C⟩ | ⟨rfl,D⟩⟩
   ·have a:=d l h5 f g;simp only[go_sem,vun,ew,I,f1,f7,f8,f9,zQ];exact⟨o,l,a.1,a.2,C⟩
   ·have a:=d l h5 f g;simp only[go_sem,vun];exact⟨l,a.1,a.2,.inr D⟩
  ·have F:(d9 c fs al O i).map wa≠[]:=λe=>g3 (by rw[e];rfl);have T:d9 c fs al O i≠[]:=λe=>F (by rw[e];rfl);have a0:((d9 c fs al O i).map wa).length<=16777216:=by rw[zI];exact ag
   have Q:∀x∈(d9 c fs al O i).map wa,x.length<=1048576:=λx hx=>by
    obtain⟨z,hz,rfl⟩:=zT.1 hx;have h1:=bD z;have p:=ad z hz;omega
   have hv:IZ c fs al O i=.sl 2 (vbs (i:Int) (mo c fs al O i)) .no:=by unfold IZ;rw[iq T]
   have U:mo c fs al O i=cpt tc (srt tc ((d9 c fs al O i).map wa)):=rfl;rw[U]at hv;clear U;generalize(d9 c fs al O i).map wa=L at *
   have hid:H.next<=k:=by
    rcases s2 k ((w9 k).2 (.inr (.inr rfl)))with(e|e)|e
    ·exact absurd e.symm (λe=>w7 (by rw[e];rfl))
    ·exact absurd e.symm (λe=>w8 (by rw[e];rfl))
    ·exact e
   have W:=Do (num:=(i:Int)) F a0 Q g1;have sl:(srt tc L).length=L.length:=(tF L).length_eq;have s0:srt tc L≠[]:=λe=>F (yv.1 (by rw[<-sl,e];rfl));have E:=QK (num:=(i:Int)) s0 ow (λx hx=>Q x (lv.1 hx)) (zi p k (.row (vbs (i:Int) (srt tc L)).flatten));rw[sl]at E;rw[pf]at X;obtain⟨h3,P,R,a3⟩:∃h3,p.set k (.row (vbs (i:Int) (srt tc L)).flatten)=h3/\h3.next=p.next/\h3.at' (h1.next+1)=some (.row [.rs k 2 0 L.length]):=⟨_,rfl,qS _ _ _,by rw[zx ow];exact X⟩;have q:Ext h1 (h3.del k):=⟨by rw[NZ,R];omega,λj n=>by rw[uK ow,<-P,zx ow,A j n]⟩;have a8:(h3.del k).next=p.next:=by rw[NZ,R]
   rw[P]at W E;generalize h3.del k=h4 at *
   have s:=y.go i S' h4 o (y.ext t q);have d:∀(l:Nat->Prop)(h5:Heap),(∀j,l j->S' j\/h4.next<=j)->But S' h4 h5->(∀j,l j->S j\/w.next<=j)/\But S w h5:=λl h5 f g=>⟨λj n=>by
    rcases f j n with n|n
    ·exact J j n
    ·exact .inr ow,(b.trans (q.but S) λi K=>.inl K).trans g J⟩
   simp only[hv]at s;simp only[go_sem,X,I];refine W.mono ?_;rintro r h ⟨rfl,u⟩;subst u;simp only[go_sem,a3,I];refine E.mono ?_;rintro r h ⟨u,rfl⟩;subst u;refine s.mono ?_;rintro r h5 ⟨l,f,g,⟨rfl,C⟩ | ⟨rfl,D⟩⟩
   ·have a:=d l h5 f g;simp only[go_sem,vun,ew,I,f1,f7,f8,f9,zQ];exact⟨o,l,a.1,a.2,C⟩
   ·have a:=d l h5 f g;simp only[go_sem,vun];exact⟨l,a.1,a.2,.inr D⟩
 ·have e1:decide ((i:Int)<6)=false:=zO ow;have ak:i=6:=ow;subst ak;have d:∃S',(∀j,S' j->S j\/w.next<=j)/\But S w h1/\(Y 6 S' h1\/Z S' h1):=⟨S',J,b,.inl t⟩;clear J b t V;exact au
def Ml{l:List Int} :∀x∈uq l,sH x:=λx a=>by
 obtain⟨s,_,rfl⟩:=zT.1 a;exact⟨rfl,⟨trivial,trivial⟩,rfl⟩
def LK(num:Int)(l:List Int):sH (LJ num l):=by
 have h:=qg (Ml (l:=l)) (sz:=1) .no;refine⟨rfl,⟨trivial,h.2,trivial⟩,?_⟩;simp only[LJ,wU,h.1];rfl
section
variable(c:Cat)(fs:List Fac)(al:Nat->Option Alt)(O:KV)
def X4(k:Nat):List (List D):=(List.range k).flatMap λi:Nat=>vbs (i:Int) (mo c fs al O i)
end
section
variable{c:Cat}{fs:List Fac}{al:Nat->Option Alt}{O:KV}
def j9(k:Nat):X4 c fs al O (k+1)=X4 c fs al O k++vbs (k:Int) (mo c fs al O k):=by
 unfold X4;rw[sG,tS,tP,je,zp]
def bo:∀x∈X4 c fs al O k,sH x:=λx a=>by
 obtain⟨i,_,h⟩:=zw.1 a;obtain⟨l,_,rfl⟩:=zT.1 h;exact LK _ _
def RW(i:Nat):(mo c fs al O i).length<=(d9 c fs al O i).length:=by
 unfold mo;refine za (lD _) ?_;rw[(tF _).length_eq,zI];exact zD _
def zH8:Nat->Nat
 |0=>4096
 |1=>4096
 |2=>98304
 |3=>16777216
 |4=>576
 |_=>24
def JY(b:fs.length<=24)(i:Nat):(d9 c fs al O i).length<=zH8 i:=by
 have d:=oT (al:=al) b;have a:∀{α:Type}{l:List α}{f:α->List (List Int)}{m n k:Nat},l.length<=n->(∀x∈l,(f x).length<=m)->n*m<=k->(l.flatMap f).length<=k:=λh1 e h3=>za (tU e) (za (yW _ h1) h3);rcases i with _|_|_|_|_|i
 ·exact a (m:=1) (f:=sU c fs al) d (λt _=>by unfold sU;split<;>simp) (by decide)
 ·exact a (m:=1) (f:=pa c fs al O) d (λt _=>by
   unfold pa;split
   ·simp
   ·split<;>simp) (by decide)
 ·exact a (m:=24) (f:=gN c fs al) d (λt _=>Yz c b al t) (by decide)
 ·exact a (m:=4096) (f:=rn c fs al) d (λt _=>bp c b al t) (by decide)
 ·exact a (m:=24) (n:=24) (f:=lm fs O) (za (tW _ fs 0) b) (λt _=>XI b O t) (by decide)
 ·show(aI c fs).length<=24;unfold aI;split
  ·simp
  ·exact a (m:=1) (n:=24) (za (tW _ fs 0) b) (λt _=>zD _) ow
def Ph(g:fs.length<=24):∀k,k<=6->(X4 c fs al O k).length<=16884312:=by
 have a:∀k,(X4 c fs al O (k+1)).length<=(X4 c fs al O k).length+zH8 k:=λk=>by
  rw[j9,zM,pf];have:=RW (c:=c) (fs:=fs) (al:=al) (O:=O) k;have:=JY (c:=c) (al:=al) (O:=O) g k;omega
 have h0:(X4 c fs al O 0).length=0:=rfl;have h1:=a 0;have d:=a 1;have h3:=a 2;have e:=a 3;have h5:=a 4;have f:=a 5;simp only[zH8,Nat.reduceAdd,yo]at h1 d h3 e h5 f;intro k h;have b:k=0\/k=1\/k=2\/k=3\/k=4\/k=5\/k=6:=ow;rcases b with rfl|rfl|rfl|rfl|rfl|rfl|rfl<;>omega
def W4(k:Nat):(IZ c fs al O k=.nilsl/\vbs (k:Int) (mo c fs al O k)= [])\/(vbs (k:Int) (mo c fs al O k)≠[]/\∃tk,IZ c fs al O k=.sl 2 (vbs (k:Int) (mo c fs al O k)) tk):=by
 unfold IZ;by_cases h:d9 c fs al O k= []
 ·rw[ip h];refine .inl ⟨rfl,yv.1 ?_⟩;have:=RW (c:=c) (fs:=fs) (al:=al) (O:=O) k;rw[h,yw]at this;rw[pf];omega
 ·rw[iq h];refine .inr ⟨λe=> ?_,_,rfl⟩;have a:0<(srt tc ((d9 c fs al O k).map wa)).length:=by
   rw[(tF _).length_eq,zI];exact yF.2 h
  have:=Vg (c:=tc) a _ (zD _) a;have b:(mo c fs al O k).length=0:=by rw[<-pf (k:Int),e];rfl
  unfold mo cpt at b;omega
end
def Ae(c:Cat)(fs:List Fac)(al:Nat->Option Alt)(O:KV)(n0 k:Nat)(S:Nat->Prop)(h:Heap):Prop:=
 n0<h.next/\∃d,h.at' n0=some (.row [d])/\rc h 2 (X4 c fs al O k) d/\∀i,S i↔(i=n0\/pT d i)
def Ae.lcl(c:Cat)(fs:List Fac)(al:Nat->Option Alt)(O:KV)(m:Nat):Lcl (Ae c fs al O m):=by
 refine⟨λk S h y i e=> ?_,λk S h h' y l j=> ?_⟩
 ·obtain⟨f,d,g,b,a⟩:=y;rcases(a i).1 e with rfl|q
  ·exact f
  ·exact(b.tok q).1
 ·obtain⟨f,d,g,b,a⟩:=y;exact⟨by omega,d,by rw[j _ ((a _).2 (.inl rfl))];exact g,b.loc l λi e=>j i ((a i).2 (.inr e)),a⟩
variable{c:Cat}{fs:List Fac}{al:Nat->Option Alt}
def zF0{M:KM Int}{O:KV}{m1 m2:Nat}(hs:Stt c fs al M O sc m1 m2)(hn:fs.length<=24)(K:StH M O m1 m2 g):
  zB prog 23 [.iptr sc 0] g λr h'=>h'=g/\Fin 2 (X4 c fs al O 6) r:=by
 refine xU kr λak=>xS ?_;refine xP λQ hQ=> ?_;have W:=aw sc;refine z5 zI6 ?_;simp only[f23,zA];obtain⟨G,hG,J,g1,hE⟩:∃G:Heap,g.new g.next (.row [.nilsl])=G/\G.next=g.next+1/\G.at' g.next=some (.row [.nilsl])/\Ext g G:=
  ⟨_,rfl,yA _ _,yQ _ _ _,(Ext.refl g).new (zD _) _⟩
 repeat' first|simp only[go_sem,N0, *]|apply bc<;>intro hc|(refine zB.mono (W _) ?_;rintro r h ⟨hq,rfl⟩)
 subst hq
 rename Heap=>G
 generalize F:LRec.mk _ _ _ _ _ _ _=L;have Y:L.pending=none:=by rw[<-F]
 have ab:L.st=.ready:=by rw[<-F]
 have T:=Ae.lcl c fs al O g.next;have U:Ae c fs al O g.next 0 (λj=>j=g.next\/pT .nilsl j) G:=⟨by omega,.nilsl,g1,.inl ⟨rfl,rfl⟩,λ_=>Iff.rfl⟩;have N:=K.ext hE;refine pL (n:=6) (el:=λi=>[IZ c fs al O i]) J T ab Y U (λyl V=>(cS hs hn (Z:=λ_ _=>False) yl V (N.ext ((Ext.refl G).new ow _)) (λe=> ?_) (λe=> ?_)).mono λr h' ⟨S',a,b,e⟩=>⟨S',a,b,e.resolve_right λq=>q⟩) ?_ ?_
 ·have:=K.2.1;rcases e with e|e|e
  ·omega
  ·omega
  ·exact e
 ·have:=K.2.2;rcases e with e|e|e
  ·omega
  ·omega
  ·exact e
 ·intro k S0 h3 hk y X ai C;have l:=X;rw[<-F]at l;refine uN.round (g:=Ds) mix l rfl kr kr kr ?_;simp only[go_sem];refine⟨l,?_⟩;generalize hB:LRec.mk .busy _ _ _ _ _ _=B;have S:({ B with st:=.ready,pending:=none } :LRec)=L:=by rw[<-hB,<-F]
  have m:But (λi=>i=g.next+1) h3 (h3.set (g.next+1) (.loop B)):=⟨by rw[qS];exact zD _,λj _ z=>zx z⟩;obtain⟨a1,d,p,s,E⟩:=T.round ai (λi f=>f) C m;obtain⟨H,R,a5,w⟩:∃H:Heap,h3.set (g.next+1) (.loop B)=H/\H.next=h3.next/\H.at' (g.next+1)=some (.loop B):=⟨_,rfl,qS _ _ _,zi _ _ _⟩;rw[R]at a1 p s m⊢;have A:=Ph (c:=c) (al:=al) (O:=O) hn (k+1) ow;rw[j9,zM]at A;obtain⟨u,v,v1,v2,v3,v4,v5,v6,v7⟩:=s.app4 (P:=prog) (t:=36) wc jb tY ow (lx _ _) (W4 (c:=c) (fs:=fs) (al:=al) (O:=O) k) (by rw[mK];unfold lim;omega) (by unfold lim;omega);rw[<-j9]at v2;have D:∀i,pT d i->i≠g.next/\i≠g.next+1:=λi f=>by
   have:=(s.tok f).2;exact⟨λe=>(by rw[e,p]at this;cases this),λe=>(by rw[e,w]at this;cases this)⟩
  have b2:v.at' g.next=some (.row [d]):=by rw[v4 _ ow λe=>(D _ e).1 rfl];exact p
  have b3:v.at' (g.next+1)=some (.loop B):=by rw[v4 _ ow λe=>(D _ e).2 rfl];exact w
  have ad:qP prog 36 (.ptr g.next 0) u v=some (v.set g.next (.row [u])):=by
   rw[qO b2 Er (by simp) v6 v7];rfl
  have x:∀fr,rq (LpK (g.next+1) L (Ae c fs al O g.next) k S0 h3) (g.next+1) .normal fr (v.set g.next (.row [u])):=λfr=>by
   have a6:=m.1;refine Lp.fin T S y C (S':=λi=>i=g.next\/pT u i) ?_ (λi f=> ?_) ⟨by rw[qS];omega,λi f o=> ?_⟩ ⟨by rw[qS];omega,u,zi _ _ _,v2.loc (by rw[qS];exact zD _) λi f=> ?_,λi=>Iff.rfl⟩
   ·rw[zx ow];exact b3
   ·rcases f with rfl|f
    ·exact .inl ((E _).2 (.inl rfl))
    ·exact .inr (by have:=v5 i f;omega)
   ·rw[zx λe=>o (.inr ((E i).2 (.inl e))),v4 i ow λe=>o (.inr ((E i).2 (.inr e))),m.2 i f λe=>o (.inl e)]
   ·rw[zx λe=>by have:=v5 i f;omega]
  simp only[go_sem,p,v1,ad];exact x _
 ·intro S' h2 a0 hb ag;obtain⟨a1,d,p,s,E⟩:=ag;have hf:=s.fin bo;have I:Ext g h2:=Ext.of_but hE hb λj z=>by
   rcases z with rfl|z
   ·exact zD _
   ·exact z.elim
  have a7:=hQ d h2 ⟨I,qw (yg _) _ hf.1,hf.2⟩;exact au
end Go.V
