/- Rules of the machine of abstract values, part 11. No condition. -/
import Derived.Test.YtmhkjfajejaniaaGreatDoorW32
import Derived.Test.YtmhkjfajejaniaaGreatDoorW22
import Derived.Test.YtmhkjfajejaniaaGreatDoorW34
import Derived.Test.YtmhkjfajejaniaaGreatDoorW30
set_option linter.all false
namespace Go.V
abbrev KM (κ:Type):=List (κ×D)
def kmD {κ:Type} (enc:κ→D) (m:KM κ):List (D×D):=m.map fun p=>(enc p.1,p.2)
def zDq {κ:Type} [BEq κ] (k:κ):KM κ→Option D
 | []=>none
 |(k',v)::m=>if k==k' then some v else zDq k m
def zFM {κ:Type} [BEq κ] (k:κ) (v:D):KM κ→KM κ
 | []=>[(k,v)]
 |(k',v')::m=>if k==k' then(k,v)::m else(k',v')::zFM k v m
structure KEnc {κ:Type} [BEq κ] (enc:κ→D) (ag:Bool) (ks:List Kd):Prop where
 eq:∀a b,eqK ks (enc a).cells (enc b).cells=some (a==b)
 shape:∀a,zP ag (enc a)=true
section
variable {κ:Type} [BEq κ] {enc:κ→D} {ag:Bool} {ks:List Kd} (E:KEnc enc ag ks)
include E
theorem zLQ (k:κ):∀m:KM κ,zBm ks (enc k) (kmD enc m)=some (zDq k m)
 | []=>rfl
 |(k',v)::m=>by
  have ih:=zLQ k m;show(match eqK ks (enc k).cells (enc k').cells with|some true=>some (some v)|some false=>zBm ks (enc k) (kmD enc m)|none=>none)=_
  rw[E.eq];cases h:(k==k') with
  |true=>simp[zDq,h]
  |false=>simp only[zDq,h,ih];rfl
theorem zUm (k:κ) (v:D):∀m:KM κ,zOz ks (enc k) v (kmD enc m)=some (kmD enc (zFM k v m))
 | []=>rfl
 |(k',v')::m=>by
  have ih:=zUm k v m;show(match eqK ks (enc k).cells (enc k').cells with|some true=>some ((enc k,v)::kmD enc m)|some false=>(zOz ks (enc k) v (kmD enc m)).map ((enc k',v'):: ·)|none=>none)=_
  rw[E.eq];cases h:(k==k') with
  |true=>simp[zFM,h,kmD]
  |false=>simp only[zFM,h,ih];rfl
theorem zNF (m:KM κ):(kmD enc m).all (fun x=>zP ag x.1)=true:=by
 rw[List.all_eq_true];intro x hx;obtain⟨p,_,rfl⟩:=List.mem_map.1 hx;exact E.shape _
omit E in
theorem zNG [LawfulBEq κ] (k k':κ) (v:D):∀m:KM κ,zDq k (zFM k' v m)=if k==k' then some v else zDq k m
 | []=>by simp[zFM,zDq]
 |(k2,v2)::m=>by
  have ih:=zNG k k' v m;simp only[zFM];by_cases h:k'=k2
  ·subst h;simp only[beq_self_eq_true,if_true,zDq];by_cases g:k=k'
   ·subst g;simp
   ·simp[g]
  ·have hb:(k'==k2)=false:=by simp[h]
   simp only[hb,Bool.false_eq_true,if_false,zDq,ih];by_cases g:k=k2
   ·subst g
    have:(k==k')=false:=by simp;exact fun e=>h e.symm
    simp[this]
   ·simp[g]
variable {P:Program} {t kt e:TypeId} {z:D} {id:Nat} {h:Heap} {m:KM κ}
theorem zRc (hi:h.at' id=some (.map (kmD enc m))) (hm:zO0 P t=some (kt,e)) (hk:zO1 P kt=some (ag,ks)) (hz:qQ P e=some z) (k:κ) (hr:(k==k)=true) (ok:Bool):
  yS P t (.map id) (enc k) ok h=some (zDt ok z (zDq k m)):=by
 simp only[yS,hm,hk,hz,zIp,hi,zCs,zNF E,E.eq,E.shape,zLQ E,Option.isSome_some,Bool.and_self,if_true]
theorem zLR (hi:h.at' id=some (.map (kmD enc m))) (hm:zO0 P t=some (kt,e)) (hk:zO1 P kt=some (ag,ks)) (k:κ) (v:D):
  yM P t (.map id) (enc k) v h=some (h.set id (.map (kmD enc (zFM k v m)))):=by
 simp only[yM,hm,hk,hi,zNF E,E.eq,E.shape,zLQ E,zUm E,Option.isSome_some,Bool.and_self,if_true]
end
theorem zfF:KEnc (fun i:Int=>D.int .i64 i) false [.i]:=
 ⟨fun a b=>by show(if IntKind.i64=IntKind.i64 then(eqK [] [] []).map (a==b&& ·) else none)=_;simp[eqK],fun _=>rfl⟩
structure Fnd2 (P:Program) (mx:Nat) (f:FuncId) (cap:List D) (Y:List (List Int)→(Nat→Prop)→Heap→Prop):Prop where
 here:∀ks S h,Y ks S h→∀i,S i→i<h.next
 loc:∀ks S h h',Y ks S h→h.next≤h'.next→(∀i,S i→h'.at' i=h.at' i)→Y ks S h'
 go:∀ks S h l tk,Y ks S h→ks.length<16777216→0<l.length→l.length≤mx→(∀n∈l,fits .i64 n)→zA P f ([]++ [.sl 1 (wT l) tk]++cap) h fun _ h'=>∃S',(∀i,S' i→S i∨h.next≤i)∧But S h h'∧Y (ks++ [l]) S' h'
theorem Fnd2.lcl {P:Program} {mx:Nat} {f:FuncId} {cap:List D} {Y:List (List Int)→(Nat→Prop)→Heap→Prop} (y:Fnd2 P mx f cap Y) (els:Nat→List (List Int)):Lcl fun k=>Y (els k):=
 ⟨fun k=>y.here (els k),fun k=>y.loc (els k)⟩
theorem Fnd2.ext {P:Program} {mx:Nat} {f:FuncId} {cap:List D} {Y:List (List Int)→(Nat→Prop)→Heap→Prop} (y:Fnd2 P mx f cap Y) {ks:List (List Int)} {S:Nat→Prop} {h h':Heap} (hy:Y ks S h) (he:Ext h h'):Y ks S h':=
 y.loc ks S h h' hy he.1 fun i hi=>he.2 i (y.here ks S h hy i hi)
section
variable {W:Nat→(Nat→Prop)→Heap→Prop} {id m1 m2 k:Nat} {o1 o2:Obj} {L B:LRec} {h3 H h5:Heap} {S0 S1 S5:Nat→Prop} {fr:Frm}
theorem Lcl.round (hW:Lcl W) (hw:W k S1 h3) (hS0:∀i,S1 i→S0 i) (hn3:¬S0 id) (hbH:But (fun i=>i=id) h3 H):W k S1 H:=
 hW.loc _ _ _ _ hw hbH.1 fun i hi=>hbH.2 i (hW.here _ _ _ hw i hi) fun e=>hn3 (by rw[←e];exact hS0 i hi)
theorem Lp.call (hW:Lcl W) (hLB:({ B with st:= .ready,pending:=none } :LRec)=L) (h3i:id<h3.next) (hn3:¬S0 id) (hw3:W k S1 h3∧(m1<h3.next∧m2<h3.next)∧(h3.at' m1=some o1∧h3.at' m2=some o2)∧(¬S1 m1∧¬S1 m2)∧∀i,S0 i↔(i=m1∨i=m2∨S1 i))
  (hHi:H.at' id=some (.loop B)) (hbH:But (fun i=>i=id) h3 H) (hs5:∀j,S5 j→S1 j∨H.next≤j) (hb5:But S1 H h5) (hw:W (k+1) S5 h5):
  zAG (LpK id L (WK m1 o1 m2 o2 W) k S0 h3) id .normal fr h5:=by
 obtain⟨_,⟨l1,l2⟩,⟨a1,a2⟩,⟨n1,n2⟩,hS0⟩:=hw3;have hb0:=hbH.1;have hb50:=hb5.1;have i1:m1≠id:=fun e=>hn3 (by rw[←e];exact(hS0 _).2 (.inl rfl));have i2:m2≠id:=fun e=>hn3 (by rw[←e];exact(hS0 _).2 (.inr (.inl rfl)));have i3:¬S1 id:=fun e=>hn3 ((hS0 _).2 (.inr (.inr e)));refine Lp.fin (WK.lcl hW) hLB h3i hn3 (S':=fun i=>i=m1∨i=m2∨S5 i) ?_ (fun i hi=> ?_) ⟨by omega,fun i hi hn=> ?_⟩ ⟨S5,hw,⟨by omega,by omega⟩,⟨?_,?_⟩,⟨fun e=> ?_,fun e=> ?_⟩,fun i=>Iff.rfl⟩
 ·rw[hb5.2 _ (by omega) i3];exact hHi
 ·rcases hi with rfl|rfl|hi
  ·exact .inl ((hS0 _).2 (.inl rfl))
  ·exact .inl ((hS0 _).2 (.inr (.inl rfl)))
  ·exact(hs5 i hi).imp (fun q=>(hS0 _).2 (.inr (.inr q))) fun q=>by omega
 ·rw[hb5.2 i (by omega) fun e=>hn (.inr ((hS0 _).2 (.inr (.inr e)))),hbH.2 i hi fun e=>hn (.inl e)]
 ·rw[hb5.2 _ (by omega) n1,hbH.2 _ l1 i1];exact a1
 ·rw[hb5.2 _ (by omega) n2,hbH.2 _ l2 i2];exact a2
 ·rcases hs5 _ e with q|q
  ·exact n1 q
  ·omega
 ·rcases hs5 _ e with q|q
  ·exact n2 q
  ·omega
theorem Lp.open (hW:Lcl W) (hw3:WK m1 o1 m2 o2 W k S0 h3) (hid:id<h3.next) (hn3:¬S0 id) (o:Obj) (B:LRec):
  ∃S1 H,(h3.new h3.next o).set id (.loop B)=H∧H.next=h3.next+1∧H.at' h3.next=some o∧H.at' id=some (.loop B)∧But (fun j=>j=id) h3 H∧W k S1 H∧((H.at' m1=some o1∧H.at' m2=some o2)∧(m1<H.next∧m2<H.next))∧
   (W k S1 h3∧(m1<h3.next∧m2<h3.next)∧(h3.at' m1=some o1∧h3.at' m2=some o2)∧(¬S1 m1∧¬S1 m2)∧∀i,S0 i↔(i=m1∨i=m2∨S1 i)):=by
 obtain⟨S1,a1,⟨l1,l2⟩,⟨e1,e2⟩,⟨n1,n2⟩,hS0⟩:=hw3;have i1:m1≠id:=fun e=>hn3 (by rw[←e];exact(hS0 _).2 (.inl rfl));have i2:m2≠id:=fun e=>hn3 (by rw[←e];exact(hS0 _).2 (.inr (.inl rfl)));have hnx:((h3.new h3.next o).set id (.loop B)).next=h3.next+1:=by rw[zt,zD]
 have hb:But (fun j=>j=id) h3 ((h3.new h3.next o).set id (.loop B)):=⟨by omega,fun j hj hn=>by rw[zE hn,zG (by omega)]⟩;exact⟨S1,_,rfl,hnx,by rw[zE (by omega),zJ],zC _ _ _,hb,Lcl.round hW a1 (fun i hi=>(hS0 _).2 (.inr (.inr hi))) hn3 hb,⟨⟨by rw[hb.2 _ l1 i1];exact e1,by rw[hb.2 _ l2 i2];exact e2⟩,by omega,by omega⟩,a1,⟨l1,l2⟩,⟨e1,e2⟩,⟨n1,n2⟩,hS0⟩
theorem But.ext1 {S:Nat→Prop} {a b c:Heap} (hb:But S a b) (he:Ext b c):But S a c:=hb.trans (he.but S) fun i hi=> .inl hi
theorem Heap.low (H:Heap):∃h0,HLe h0 H∧(∀o,HLe h0 (H.new H.next o))∧∀i,i<H.next→h0.at' i=H.at' i:=
 ⟨⟨H.next,fun i=>if i=H.next then none else H.at' i⟩,fun i ob e=>by
   simp only at e;split at e
   ·cases e
   ·exact e,fun o i ob e=>by
   simp only at e;split at e
   ·cases e
   ·rename_i hi;rw[zG hi];exact e,fun i hi=>by
   simp only;rw[if_neg (by omega)]⟩
end
def zfG (P:Program) (h0:Heap) (t:TypeId) (m k:D) (ok:Bool) (K:D→Prop):Prop:=∃d,(∀h',HLe h0 h'→onS (yS P t m k ok h') fun d'=>d'=d∧h'=h')∧K d
@[congr] theorem zb4 {P:Program} {h0:Heap} {t:TypeId} {m m' k k':D} {ok:Bool} {K:D→Prop} (hf:m=m') (ha:k=k'):zfG P h0 t m k ok K=zfG P h0 t m' k' ok K:=by rw[hf,ha]
@[go_sem ↓] theorem zW7 {P:Program} {h0:Heap} {fr:Frm} (t:TypeId) (a b:Operand) (ok:Bool) (K:D→Prop):zHz P h0 (.lookup t a b ok) (zx fr) K=zfG P h0 t (zx fr a) (zx fr b) ok K:=by
 unfold zHz zfG zVT;simp only[go_sem]
theorem zUn {P:Program} {h0:Heap} {t:TypeId} {m k:D} {ok:Bool} {K:D→Prop} (d:D) (hv:yS P t m k ok h0=some d) (hk:K d):zfG P h0 t m k ok K:=
 ⟨d,fun h' hle=>by rw[zJW hle hv];exact⟨rfl,rfl⟩,hk⟩
open Go.Proofs
set_option maxRecDepth 100000
structure Stt (c:Cat) (fs:List Fac) (al:Nat→Option Alt) (M:KM Int) (O:KV) (sc:List D) (m1 m2:Nat):Prop where
 sc:∃a b e p x,sc= [a,b,e,p,x, .map m1, .map m2]∧qX c (.agg [a,b,e,p])∧zX 12 (zIH fs) x∧zX 4 (zCV c.ls) a
 sm:c.Sm
 len:fs.length≤256
 ok:∀f∈fs,f.Ok
 get:∀i,i<fs.length→zDq (i:Int) M=(al i).map Alt.d
 alt:∀i a,al i=some a→a.Ok
def StH (M:KM Int) (O:KV) (m1 m2:Nat) (h:Heap):Prop:=
 (h.at' m1=some (.map (kmD (D.int .i64) M))∧h.at' m2=some (.map (kvD O)))∧(m1<h.next∧m2<h.next)
theorem StH.ext {M:KM Int} {O:KV} {m1 m2:Nat} {h h':Heap} (s:StH M O m1 m2 h) (e:Ext h h'):StH M O m1 m2 h':=by
 obtain⟨⟨a,b⟩,c,d⟩:=s;have:=e.1;exact⟨⟨by rw[e.2 _ c];exact a,by rw[e.2 _ d];exact b⟩,by omega,by omega⟩
theorem zLS {c:Cat} {fs:List Fac} {al:Nat→Option Alt} {M:KM Int} {O:KV} {sc:List D} {m1 m2:Nat} (hs:Stt c fs al M O sc m1 m2) {h:Heap} (hh:h.at' m1=some (.map (kmD (D.int .i64) M))) {i:Nat} (hi:i<fs.length) (ok:Bool):
  yS Tryz.prog 148 (.map m1) (.int .i64 (i:Int)) ok h=some (zDt ok .nilsl ((al i).map Alt.d)):=by
 rw[←hs.get i hi];exact zRc zfF hh zPQ zXe zGu (i:Int) (by simp) ok
theorem zUo {O:KV} {m2:Nat} {h:Heap} (hh:h.at' m2=some (.map (kvD O))) (s:List UInt8) (ok:Bool):
  yS Tryz.prog 149 (.map m2) (.str s) ok h=some (zDt ok (.str []) ((ww s O).map .str)):=
 zRE hh zPR zMB zFg s ok
abbrev Tri:=Nat×Nat×Nat
def wI (fs:List Fac) (i:Nat):List UInt8:=match fs[i]? with
 |some f=>f.comp
 |none=>[]
def wP (fs:List Fac) (i:Nat):List UInt8:=match fs[i]? with
 |some f=>f.out
 |none=>[]
def zRd (fs:List Fac) (i u:Nat):List Tri:=(fIx 2 (fun g=>g.out==wP fs u) fs).map fun h=>(i,u,h)
def zRe (fs:List Fac) (al:Nat→Option Alt) (i:Nat):List Tri:=if(al i).isSome=true then(fIx 0 (fun g=>g.comp==wI fs i) fs).flatMap (zRd fs i) else []
def zo (fs:List Fac) (al:Nat→Option Alt):List Tri:=(List.range fs.length).flatMap (zRe fs al)
def zBv (t:Tri):List D:=[.int .i64 (t.1:Int), .int .i64 (t.2.1:Int), .int .i64 (t.2.2:Int)]
abbrev elT (l:List Tri) (k:Nat):List D:=[.agg (zBv (l.getD k (0,0,0)))]
def zEP (sc:List D):D:= .fn (.func 262) [] [.iptr [.iptr sc 0] 0]
theorem zFN (sc:List D) (h:Heap):zA Tryz.prog 200 [.iptr sc 0] h fun r h'=>h'=h∧r=zEP sc:=by
 refine zA.of_fn (g:=zPZ) mix Tryz.func200 zdM rfl rfl ?_;simp only[Tryz.f200,gJ];simp only[go_sem,zha,zEP]
theorem zfH (f g:Fac) {id:Nat} {h:Heap} (hi:h.at' id=some (.row f.cells)):zA Tryz.prog 263 [.agg g.cells, .ptr id 0] h fun r h'=>h'=h∧r= .bool (g.comp==f.comp):=by
 have k1:f.cells[1]? =some (.str f.comp):=rfl;have k2:g.cells[1]? =some (.str g.comp):=rfl;refine zA.of_fn (g:=zPU) mix Tryz.func263 zc9 rfl rfl ?_;simp only[Tryz.f263,gJ]
 repeat' first|simp only[go_sem,zhL, *]|apply bc<;>intro hc
theorem zfI {fs:List Fac} {sc:List D} {x:D} (hsc:sc[4]? =some x) (hx:zX 12 (zIH fs) x) {u:Nat} (hu:u<fs.length) (g:Fac) {id:Nat} {h:Heap} (hi:h.at' id=some (.row [.int .i64 (u:Int)])):
  zA Tryz.prog 264 [.agg g.cells, .iptr [.iptr sc 0] 0, .ptr id 0] h fun r h'=>h'=h∧r= .bool (g.out==wP fs u):=by
 have k1:fs[u].cells[2]? =some (.str fs[u].out):=rfl;have k2:g.cells[2]? =some (.str g.out):=rfl;have ha:=qf hx hu;have ho:wP fs u=fs[u].out:=by simp[wP,hu]
 refine zA.of_fn (g:=zPc) mix Tryz.func264 zdR rfl rfl ?_;simp only[Tryz.f264,gJ]
 repeat' first|simp only[go_sem,zdQ, *]|apply bc<;>intro hc
 refine zz Heap.emp [(2, .no,false),(6, .no,false),(0, .no,false),(1, .no,false),(3, .no,false),(4, .no,false),(5, .no,false),(7, .no,false),(8, .no,false),(9, .no,false),(10, .no,false),(11, .no,false)] (by kernel_rfl) (by kernel_rfl) (fun i ob e=>by cases e) ?_
 repeat' first|simp only[go_sem,zdQ,zW, *]|apply bc<;>intro hc
abbrev zW8 (fs:List Fac) (i:Nat):List Nat:=fIx 0 (fun g=>g.comp==wI fs i) fs
abbrev zBw (fs:List Fac) (u:Nat):List Nat:=fIx 2 (fun g=>g.out==wP fs u) fs
theorem zUp {α β:Type} {l:List α} {f:α→List β} {a b:Nat} {x:α} (h:l[a]? =some x) (hb:b<(f x).length):(l.flatMap f)[zDG l f a+b]? =(f x)[b]? :=by
 obtain⟨h1,rfl⟩:=List.getElem?_eq_some_iff.1 h;rw[zYX h1 hb,List.getElem?_eq_getElem hb]
theorem zEQ {α β:Type} {l:List α} {f:α→List β} {a:Nat} {x:α} (h:l[a]? =some x):zDG l f (a+1)=zDG l f a+(f x).length:=by
 obtain⟨h1,rfl⟩:=List.getElem?_eq_some_iff.1 h;exact zRS h1
theorem zYd {α β:Type} {l:List α} {f:α→List β} {a b:Nat} {x:α} (h:l[a]? =some x) (hb:b<(f x).length):zDG l f a+b<(l.flatMap f).length:=by
 obtain⟨h1,rfl⟩:=List.getElem?_eq_some_iff.1 h;exact zir h1 hb
abbrev zG7 (fs:List Fac) (al:Nat→Option Alt) (i:Nat):Nat:=zDG (List.range fs.length) (zRe fs al) i
abbrev zLT (fs:List Fac) (i k:Nat):Nat:=zDG (zW8 fs i) (zRd fs i) k
section
variable {fs:List Fac} {al:Nat→Option Alt} {i k k2 u v:Nat}
theorem zak (hi:i<fs.length) (ha:(al i).isSome=false):zG7 fs al (i+1)=zG7 fs al i:=by
 unfold zG7;rw[zEQ (x:=i) (by simp[hi])];simp[zRe,ha]
theorem zW9 (hi:i<fs.length) (ha:(al i).isSome=true):zG7 fs al (i+1)=zG7 fs al i+zLT fs i (zW8 fs i).length:=by
 unfold zG7 zLT;rw[zEQ (x:=i) (by simp[hi]),zMr];simp[zRe,ha]
theorem zUq (hk:(zW8 fs i)[k]? =some u):zLT fs i (k+1)=zLT fs i k+(zBw fs u).length:=by
 unfold zLT;rw[zEQ hk];simp[zRd]
theorem zXA (hi:i<fs.length) (ha:(al i).isSome=true) (hk:(zW8 fs i)[k]? =some u) (hk2:(zBw fs u)[k2]? =some v):
  zG7 fs al i+(zLT fs i k+k2)<(zo fs al).length∧(zo fs al)[zG7 fs al i+(zLT fs i k+k2)]? =some (i,u,v):=by
 obtain⟨q2,_⟩:=List.getElem?_eq_some_iff.1 hk2;have hb:k2<(zRd fs i u).length:=by unfold zRd;rw[List.length_map];exact q2
 have hb1:=zYd (f:=zRd fs i) hk hb;have hI:zRe fs al i=(zW8 fs i).flatMap (zRd fs i):=by unfold zRe;rw[if_pos ha]
 rw[←hI] at hb1;have hr:(List.range fs.length)[i]? =some i:=by simp[hi]
 refine⟨zYd (f:=zRe fs al) hr hb1,?_⟩;have h1:=zUp (f:=zRe fs al) hr hb1;rw[hI] at h1;have h2:=zUp (f:=zRd fs i) hk hb;show((List.range fs.length).flatMap (zRe fs al))[_]? =_;rw[h1,h2];unfold zRd;rw[List.getElem?_map,hk2];rfl
end
set_option maxHeartbeats 4000000 in
theorem zCD {c:Cat} {fs:List Fac} {al:Nat→Option Alt} {M:KM Int} {O:KV} {sc:List D} {m1 m2:Nat} (hs:Stt c fs al M O sc m1 m2)
  {id:Nat} {Y:Nat→(Nat→Prop)→Heap→Prop} (y:Yld Tryz.prog id (zo fs al).length (elT (zo fs al)) Y fun _ _=>False) (hH:∀k S h,Y k S h→StH M O m1 m2 h) {S:Nat→Prop} {w:Heap} (hY:Y 0 S w):
  zA Tryz.prog 262 [.yld id, .iptr [.iptr sc 0] 0] w fun _ h'=>∃S',(∀j,S' j→S j∨w.next≤j)∧But S w h'∧Y (zo fs al).length S' h':=by
 have hs0:=hs;obtain⟨⟨ca,cb,ce,cp,x,rfl,hc,hx,_⟩,sm,hlen,hok,hget,halt⟩:=hs;have hll:=zCb hx;refine zA.of_fn (g:=zJh) mix Tryz.func262 zeW rfl rfl ?_;simp only[Tryz.f262,gJ]
 repeat' first|simp only[go_sem,zFk,zW, *]|apply bc<;>intro hc
 refine zF (fun i fr h'=>fr 1= .iptr [.iptr [ca,cb,ce,cp,x, .map m1, .map m2] 0] 0∧fr 2= .iptr [.yld id] 0∧fr 12=x∧fr 13= .int .i64 (fs.length:Int)∧fr 14= .int .i64 (i:Int)∧∃S',(∀j,S' j→S j∨w.next≤j)∧But S w h'∧Y (zG7 fs al i) S' h') fs.length (by omega) ?_ ?_ ?_
 ·have hst:∃S',(∀j,S' j→S j∨w.next≤j)∧But S w w∧Y (zG7 fs al 0) S' w:=⟨S,fun j hj=> .inl hj,But.refl S w,hY⟩;simp only[go_sem,zFk,true_and,and_true,Int.ofNat_zero];exact hst
 ·rintro i fr h1 hlt e1 ew ⟨f1,f2,f12,f13,f14,S',hS,hbut,hYi⟩;have a1:=qf hx hlt;have hm:fs[i]∈fs:=List.getElem_mem hlt;have hw:zR true 12 fs[i].cells 0=some (.agg fs[i].cells):=zB rfl (by omega);have hst:=zMm (hok _ hm);have hcp:wI fs i=fs[i].comp:=by simp[wI,hlt]
  generalize fs[i]=f at *
  clear hget halt hok;have hst2:∀o2,zU Tryz.prog 3 (.ptr h1.next 0) (.int .i64 (i:Int)) ((h1.new h1.next (.row [.int .i64 0])).new (h1.next+1) o2)=some ((h1.new h1.next (.row [.int .i64 (i:Int)])).new (h1.next+1) o2):=fun o2=>by
   have:=zOM (P:=Tryz.prog) (t:=3) (H:=h1) (c:= .int .i64 0) (x:= .int .i64 (i:Int)) (o2:=o2) wL rfl rfl;simpa only[zD] using this
  repeat' first|simp only[go_sem,zFk,zD, *]|apply bc<;>intro hc
  obtain⟨G,hG,hGn,g1,g2,hE⟩:∃G:Heap,(h1.new h1.next (.row [.int .i64 (i:Int)])).new (h1.next+1) (.row f.cells)=G∧G.next=h1.next+2∧G.at' h1.next=some (.row [.int .i64 (i:Int)])∧G.at' (h1.next+1)=some (.row f.cells)∧Ext h1 G:=
   ⟨_,rfl,zm _ (by rw[zD];exact Nat.le_refl _) _,by rw[zG (by omega),zJ],zJ _ _ _,((Ext.refl h1).new (Nat.le_refl _) _).new (by omega) _⟩
  rw[hG];clear hG hst hst2 hll;have hYG:=y.ext hYi hE;have hHG:=hH _ _ _ hYG;have hlk:=zLS hs0 hHG.1.1 hlt true;have hbutG:But S w G:=hbut.trans (hE.but S) fun i hi=> .inl hi;refine zz Heap.emp [(0, .no,false),(4, .no,false),(1, .no,false),(2, .no,false),(3, .no,false),(5, .no,false),(6, .no,false),(7, .no,false),(8, .no,false),(9, .no,false),(10, .no,false)] (by kernel_rfl) (by kernel_rfl) (fun i ob e=>by cases e) ?_;cases hal:al i with
  |none=>
   rw[hal] at hlk;replace hlk:yS Tryz.prog 148 (.map m1) (.int .i64 (i:Int)) true G=some (.tuple [.nilsl, .bool false]):=hlk;have hfin:∃S',(∀j,S' j→S j∨w.next≤j)∧But S w G∧Y (zG7 fs al (i+1)) S' G:=⟨S',hS,hbutG,by rw[zak hlt (by rw[hal];rfl)];exact hYG⟩;clear hYG hHG hbutG hE hS hbut hYi hal
   repeat' first|simp only[go_sem,zFk,zW, *]|apply bc<;>intro hc
  |some a=>
   rw[hal] at hlk;replace hlk:yS Tryz.prog 148 (.map m1) (.int .i64 (i:Int)) true G=some (.tuple [a.d, .bool true]):=hlk;obtain⟨q1,q2,_⟩:=zK (hs0.alt i a hal).sl;have hcf:=fun g=>zFy [ca,cb,ce,cp,x, .map m1, .map m2] 0 (hf:= .fn (.func 263) [] [.ptr (h1.next+1) 0]) ⟨_,_,_,rfl⟩ g
   repeat' first|simp only[go_sem,zFk,zW,zDO, *]|apply bc<;>intro hc|(refine zA.mono (hcf _) ?_;rintro r h ⟨hq,rfl⟩)
   subst hq;generalize hL:LRec.mk _ _ _ _ _ _ _=L;have hpe:L.pending=none:=by rw[←hL]
   have hrd:L.st= .ready:=by rw[←hL]
   have hYl:Lcl fun k=>Y (zG7 fs al i+zLT fs i k):=⟨fun k=>y.here _,fun k=>y.loc _⟩;have hS3:∀j,S' j→j<h1.next:=fun j hj=>y.here _ _ _ hYi j hj;refine we (W:=WK h1.next (.row [.int .i64 (i:Int)]) (h1.next+1) (.row f.cells) fun k=>Y (zG7 fs al i+zLT fs i k)) (n:=(zW8 fs i).length) (el:=elI (zW8 fs i)) (S:=fun j=>j=h1.next∨j=h1.next+1∨S' j) hGn (WK.lcl hYl) hrd hpe ?_ (fun yl hY0=>zDi (sc:=[ca,cb,ce,cp,x, .map m1, .map m2]) rfl hx (by omega) hs0.ok yl (R:=fun j=>j=h1.next+1) ?_ (fun g hg h2 hr=> ?_) hY0) ?_ ?_
   ·exact WK.start (by rw[show zLT fs i 0=0 from zRT _ _];exact hYG) (by omega) (by omega) g1 g2 (fun e=>Nat.lt_irrefl _ (hS3 _ e)) (fun e=>by have:=hS3 _ e;omega)
   ·rintro j rfl;refine⟨by rw[zm _ (by omega)];omega, .inr ?_⟩;rintro k S2 h2 ⟨_,_,S0,hk,_⟩;rw[hk.st.1.2,zG (by omega),g2]
   ·exact(zfH f g (by rw[hr _ rfl,zG (by omega),g2])).mono fun r h3 e=>by rw[hcp];exact e
   ·intro k S0 h3 hk hid3 hl3 hw3 hn3;obtain⟨u,hu⟩:∃u,(zW8 fs i)[k]? =some u:=⟨_,List.getElem?_eq_getElem hk⟩;have hul:u<fs.length:=by
     have:=(wo _ fs 0 u (List.mem_of_getElem? hu)).2;omega
    have hgu:(zW8 fs i).getD k 0=u:=by rw[List.getD_eq_getElem?_getD,hu];rfl
    simp only[elI,hgu];obtain⟨S1,hY1,⟨lt1,lt2⟩,⟨at1,at2⟩,⟨n1,n2⟩,hS0⟩:=hw3;have hl3':=hl3;rw[←hL] at hl3';have hst7:zU Tryz.prog 3 (.ptr h3.next 0) (.int .i64 (u:Int)) (h3.new h3.next (.row [.int .i64 0]))=some (h3.new h3.next (.row [.int .i64 (u:Int)])):=by
     rw[za (zJ _ _ _) wL (by simp) rfl rfl,zEG];rfl
    clear hlk q1 q2 a1 hw hm hcf hcp hS hbut hYi hE hYG hHG hbutG;refine yi.round (g:=zJh) mix hl3' rfl (by kernel_rfl) (by kernel_rfl) (by kernel_rfl) ?_;simp only[go_sem,zFk,f1,f2,hst7];refine⟨by rw[zG (by omega)];exact hl3',?_⟩;generalize hB:LRec.mk .busy _ _ _ _ _ _=B;have hLB:({ B with st:= .ready,pending:=none } :LRec)=L:=by rw[←hB,←hL]
    obtain⟨H,hHe,hHn,b1,b3,b4,hYH,hbH⟩:∃H:Heap,(h3.new h3.next (.row [.int .i64 (u:Int)])).set (h1.next+2) (.loop B)=H∧H.next=h3.next+1∧H.at' h1.next=some (.row [.int .i64 (i:Int)])∧H.at' h3.next=some (.row [.int .i64 (u:Int)])∧H.at' (h1.next+2)=some (.loop B)∧Y (zG7 fs al i+zLT fs i k) S1 H∧But (fun j=>j=h1.next+2) h3 H:=by
     refine⟨_,rfl,by rw[zt,zD],by rw[zE (by omega),zG (by omega)];exact at1,by rw[zE (by omega),zJ],zC _ _ _,?_,⟨by rw[zt,zD];omega,fun j hj hn=>by rw[zE hn,zG (by omega)]⟩⟩;have hb:=fun j hj=>y.here _ _ _ hY1 j hj;refine y.loc _ _ _ _ hY1 (by rw[zt,zD];omega) fun j hj=> ?_;have:=hb j hj;rw[zE (fun e=>hn3 (by rw[←e];exact(hS0 _).2 (.inr (.inr hj)))),zG (by omega)]
    rw[hHe];clear hst7 hHe hB;have hcf:=fun g=>zFy [ca,cb,ce,cp,x, .map m1, .map m2] 2 (hf:= .fn (.func 264) [] [.iptr [.iptr [ca,cb,ce,cp,x, .map m1, .map m2] 0] 0, .ptr h3.next 0]) ⟨_,_,_,rfl⟩ g;refine(hcf _).mono ?_;rintro r H2 ⟨hq,rfl⟩;subst hq
    repeat' first|simp only[go_sem,zFk,zDO, *]|apply bc<;>intro hc
    generalize hL2:LRec.mk .ready _ _ _ _ _ _=L2;have hpe2:L2.pending=none:=by rw[←hL2]
    have hrd2:L2.st= .ready:=by rw[←hL2]
    have hYl2:Lcl fun k2=>Y (zG7 fs al i+(zLT fs i k+k2)):=⟨fun k=>y.here _,fun k=>y.loc _⟩;have hS13:∀j,S1 j→j<h3.next:=fun j hj=>y.here _ _ _ hY1 j hj;have hid2:¬S1 (h1.next+2):=fun e=>hn3 ((hS0 _).2 (.inr (.inr e)))
    refine⟨⟨_,b4⟩,we (W:=WK h1.next (.row [.int .i64 (i:Int)]) h3.next (.row [.int .i64 (u:Int)]) fun k2=>Y (zG7 fs al i+(zLT fs i k+k2))) (n:=(zBw fs u).length) (el:=elI (zBw fs u)) (S:=fun j=>j=h1.next∨j=h3.next∨S1 j) hHn (WK.lcl hYl2) hrd2 hpe2 ?_ (fun yl hY0=>zDi (sc:=[ca,cb,ce,cp,x, .map m1, .map m2]) rfl hx (by omega) hs0.ok yl (R:=fun j=>j=h3.next) ?_ (fun g hg h2 hr=> ?_) hY0) ?_ ?_⟩
    ·exact WK.start hYH (by omega) (by omega) b1 b3 n1 (fun e=>Nat.lt_irrefl _ (hS13 _ e))
    ·rintro j rfl;refine⟨by rw[zm _ (by omega)];omega, .inr ?_⟩;rintro k S2 h2 ⟨_,_,S0,hk,_⟩;rw[hk.st.1.2,zG (by omega),b3]
    ·exact(zfI (sc:=[ca,cb,ce,cp,x, .map m1, .map m2]) rfl hx hul g (by rw[hr _ rfl,zG (by omega),b3])).mono fun r h3 e=>e
    ·intro k2 S3 h4 hk2 hid4 hl4 hw4 hn4;obtain⟨v,hv⟩:∃v,(zBw fs u)[k2]? =some v:=⟨_,List.getElem?_eq_getElem hk2⟩;have hgv:(zBw fs u).getD k2 0=v:=by rw[List.getD_eq_getElem?_getD,hv];rfl
     simp only[elI,hgv];obtain⟨S4,hY4,⟨lt3,lt4⟩,⟨at3,at4⟩,⟨n3,n4⟩,hS4⟩:=hw4;have hl4':=hl4;rw[←hL2] at hl4';obtain⟨tl,te⟩:=zXA (al:=al) hlt (by rw[hal];rfl) hu hv;have hge:(zo fs al).getD (zG7 fs al i+(zLT fs i k+k2)) (0,0,0)=(i,u,v):=by rw[List.getD_eq_getElem?_getD,te];rfl
     have hgo:=fun S h=>y.go (zG7 fs al i+(zLT fs i k+k2)) S h tl;simp only[elT,hge,zBv] at hgo;have hvb:yG Tryz.prog 270 [(0, .int .i64 (i:Int)),(1, .int .i64 (u:Int)),(2, .int .i64 (v:Int))]=some (.agg [.int .i64 (i:Int), .int .i64 (u:Int), .int .i64 (v:Int)]):=by simp[yG,zN8,zSr,qZ,yW,D.notTuple,D.cells]
     refine yi.round (g:=zJh) mix hl4' rfl (by kernel_rfl) (by kernel_rfl) (by kernel_rfl) ?_;simp only[go_sem,zFk];refine⟨hl4',?_⟩;generalize hB2:LRec.mk .busy _ _ _ _ _ _=B2;have hLB2:({ B2 with st:= .ready,pending:=none } :LRec)=L2:=by rw[←hB2,←hL2]
     have i1:h1.next≠h3.next+1:=by omega
     have i2:h3.next≠h3.next+1:=by omega
     obtain⟨H4,hH4,a3,a4,a5,hbH2⟩:∃H4:Heap,h4.set (h3.next+1) (.loop B2)=H4∧H4.at' h1.next=some (.row [.int .i64 (i:Int)])∧H4.at' h3.next=some (.row [.int .i64 (u:Int)])∧H4.at' (h3.next+1)=some (.loop B2)∧But (fun j=>j=h3.next+1) h4 H4:=
      ⟨_,rfl,by rw[zE i1];exact at3,by rw[zE i2];exact at4,zC _ _ _,by rw[zt];exact Nat.le_refl _,fun j _ hj=>zE hj⟩
     rw[hH4];clear hB2 hH4;simp only[go_sem,zFk,hvb,a3,a4,f2];refine(hgo _ _ (hYl2.round hY4 (fun j hj=>(hS4 _).2 (.inr (.inr hj))) hn4 hbH2)).mono ?_;rintro r h5 ⟨S5,hs5,hb5,⟨rfl,hr⟩ | ⟨rfl,hr⟩⟩
     ·have hfin:∀fr,zAG (LpK (h3.next+1) L2 (WK h1.next (.row [.int .i64 (i:Int)]) h3.next (.row [.int .i64 (u:Int)]) fun k2=>Y (zG7 fs al i+(zLT fs i k+k2))) k2 S3 h4) (h3.next+1) .normal fr h5:=fun fr=>Lp.call hYl2 hLB2 hid4 hn4 ⟨hY4,⟨lt3,lt4⟩,⟨at3,at4⟩,⟨n3,n4⟩,hS4⟩ a5 hbH2 hs5 hb5 hr;simp only[go_sem,zFk,vun];exact hfin _
     ·exact hr.elim
    ·intro S' h5 hs hb hw;obtain⟨S5,hs5,hb5,hw5⟩:=WK.stop b1 b3 (fun j hj=>by rw[hHn];exact hs j hj) hb hw;rw[←Nat.add_zero (zLT fs i k)] at hYH;have hw6:Y (zG7 fs al i+zLT fs i (k+1)) S5 h5:=by rw[zUq hu];exact hw5
     have hfin:∀fr,zAG (LpK (h1.next+2) L (WK h1.next (.row [.int .i64 (i:Int)]) (h1.next+1) (.row f.cells) fun k=>Y (zG7 fs al i+zLT fs i k)) k S0 h3) (h1.next+2) .normal fr h5:=fun fr=>Lp.call hYl hLB hid3 hn3 ⟨hY1,⟨lt1,lt2⟩,⟨at1,at2⟩,⟨n1,n2⟩,hS0⟩ b4 hbH hs5 hb5 hw6;simp only[go_sem,zFk];exact hfin _
   ·intro S2 h5 hs hb hw;obtain⟨S5,hs5,hb5,hw5⟩:=WK.stop g1 g2 (fun j hj=>by rw[hGn];exact hs j hj) hb hw;have hfin:∃S',(∀j,S' j→S j∨w.next≤j)∧But S w h5∧Y (zG7 fs al (i+1)) S' h5:=⟨S5,fun j hj=>by
     rcases hs5 j hj with q|q
     ·exact hS j q
     ·exact .inr (by have:=hbutG.1;omega),hbutG.trans hb5 hS,by rw[zW9 hlt (by rw[hal];rfl)];exact hw5⟩
    clear hlk hYG hHG hbutG hE hS hbut hYi hal hs hb hw hs5 hb5 hw5 hcf hL
    repeat' first|simp only[go_sem,zFk, *]|apply bc<;>intro hc
 ·rintro fr h2 e1 ⟨f1,f2,f12,f13,f14,S',hS1,hS2,hS3⟩;have hfin:∃S',(∀j,S' j→S j∨w.next≤j)∧But S w h2∧Y (zo fs al).length S' h2:=⟨S',hS1,hS2,by rw[show(zo fs al).length=zG7 fs al fs.length from(by unfold zG7 zo;rw[←zMr,List.length_range])];exact hS3⟩
  clear hS1 hS2 hS3
  repeat' first|simp only[go_sem,zFk, *]|apply bc<;>intro hc
def zER (fs:List Fac) (i:Nat):Int:=match fs[i]? with
 |some f=>f.way
 |none=>0
def zBW (fs:List Fac) (i:Nat):Int:=match fs[i]? with
 |some f=>f.rel
 |none=>0
def zUr (duty:Int) (q:List (List UInt8)→Bool) (l:Cla):Bool:=l.duty==duty&&q l.list
def zfJ (c:Cat) (way rel duty:Int) (q:List (List UInt8)→Bool) (z:Trm):Bool:=(zCa c z.a z.b way rel).any (zUr duty q)
def zOq (c:Cat) (ts:List Trm) (way rel duty:Int) (q:List (List UInt8)→Bool):Bool:=ts.any (zfJ c way rel duty q)
theorem zUs {duty:Int} {q:List (List UInt8)→Bool} :∀ {a b:List Cla},a.map Cla.key=b.map Cla.key→a.any (zUr duty q)=b.any (zUr duty q)
 | [],[],_=>rfl
 | [],_::_,h=>by cases h
 |_::_,[],h=>by cases h
 |x::a,y::b,h=>by
  simp only[List.map_cons,List.cons.injEq,Cla.key,Prod.mk.injEq] at h;obtain⟨⟨_,_,_,h1,h2⟩,h3⟩:=h;rw[List.any_cons,List.any_cons,zUs h3,zUr,zUr,h1,h2]
theorem zfK (y:Cla) (h:Heap):zA Tryz.prog 202 [.agg y.cells] h fun r h'=>h'=h∧r= .bool true:=by
 refine zA.of_fn (g:=zTW) mix Tryz.func202 zh4 rfl rfl ?_;simp only[Tryz.f202,gJ]
 repeat' first|simp only[go_sem,zh3, *]|apply bc<;>intro hc
set_option maxHeartbeats 4000000 in
theorem zal {c:Cat} {fs:List Fac} {al:Nat→Option Alt} {M:KM Int} {O:KV} {sc:List D} {m1 m2:Nat} (hs:Stt c fs al M O sc m1 m2) {t:Tri} (t1:t.1<fs.length) (t2:t.2.1<fs.length) (t3:t.2.2<fs.length) {a:Alt} (hal:al t.1=some a) (duty:Int)
  {f:FuncId} {cap:List D} {q:List (List UInt8)→Bool} {R:Nat→Prop} {g:Heap} (hH:StH M O m1 m2 g) (hR:∀i,R i→i<g.next) (hq:∀y:Cla,y.Fine→∀h2:Heap,(∀i,R i→h2.at' i=g.at' i)→zA Tryz.prog f ([]++ [.agg y.cells]++cap) h2 fun r h3=>h3=h2∧r= .bool (q y.list)):
  zA Tryz.prog 201 [.iptr sc 0, .agg (zBv t), .int .i64 duty, .fn (.func f) [] cap] g fun r h'=>Ext g h'∧r= .bool (zOq c a.ts (zER fs t.2.2) (zBW fs t.2.1) duty q):=by
 have hlk:=zLS hs hH.1.1 t1 false;rw[hal] at hlk;replace hlk:yS Tryz.prog 148 (.map m1) (.int .i64 (t.1:Int)) false g=some a.d:=hlk;have hok:=hs.alt _ _ hal;have w1:zER fs t.2.2=fs[t.2.2].way:=by simp[zER,t3]
 have w2:zBW fs t.2.1=fs[t.2.1].rel:=by simp[zBW,t2]
 rw[w1,w2];clear w1 w2;obtain⟨⟨ca,cb,ce,cp,x,rfl,hc,hx,_⟩,sm,hlen,hfk,hget,halt⟩:=hs;have a2:=qf hx t2;have a3:=qf hx t3;have k2:fs[t.2.1].cells[3]? =some (.int .i64 fs[t.2.1].rel):=rfl;have k3:fs[t.2.2].cells[4]? =some (.int .i64 fs[t.2.2].way):=rfl;generalize fs[t.2.1]=f2 at *
 generalize fs[t.2.2]=f3 at *
 have hla:=qy hok.sl;have hal0:=hok.len;obtain⟨q1,q2,_⟩:=zK hok.sl;have hE:Ext g g:=Ext.refl g;obtain⟨t1',t2',t3'⟩:=t;simp only[zBv] at *
 clear hget halt hfk hal;refine zA.of_fn (g:=zPh) mix Tryz.func201 zdc rfl rfl ?_;simp only[Tryz.f201,gJ]
 repeat' first|simp only[go_sem,zGc, *]|apply bc<;>intro hc
 refine zz Heap.emp [(0, .no,false),(1, .no,false),(2, .no,false),(3, .no,false),(4, .no,false),(5, .no,false),(6, .no,false),(7, .no,false),(8, .no,false)] (by kernel_rfl) (by kernel_rfl) (fun i ob e=>by cases e) ?_
 repeat' first|simp only[go_sem,zGc,zW, *]|apply bc<;>intro hc
 refine zF (fun i fr h'=>fr 0= .iptr [ca,cb,ce,cp,x, .map m1, .map m2] 0∧fr 2= .int .i64 duty∧fr 3= .fn (.func f) [] cap∧fr 5= .iptr [.int .i64 (t1':Int), .int .i64 (t2':Int), .int .i64 (t3':Int)] 0∧fr 19=a.d∧fr 20= .int .i64 (a.ts.length:Int)∧fr 21= .int .i64 (i:Int)∧Ext g h'∧∀j (hj:j<a.ts.length),j<i→zfJ c f3.way f2.rel duty q a.ts[j]=false) a.ts.length (by omega) ?_ ?_ ?_
 ·simp only[go_sem,zGc,true_and,and_true,Int.ofNat_zero];exact⟨hE,fun j hj h0=>by omega⟩
 ·rintro i fr h1 hlt e1 ew ⟨f0,f2',f3',f5,f19,f20,f21,hE1,hj⟩;have a1:=zCd hok.sl hlt;have hzv:zfJ c f3.way f2.rel duty q a.ts[i]=(zCa c a.ts[i].a a.ts[i].b f3.way f2.rel).any (zUr duty q):=rfl;have hzt:=fun e=>zH5 (p:=zfJ c f3.way f2.rel duty q) hlt e;have hzn:=fun e=>yk (p:=zfJ c f3.way f2.rel duty q) hlt hj e;generalize a.ts[i]=z at *
  have hst:zU Tryz.prog 79 (.ptr h1.next 0) (.agg z.cells) (h1.new h1.next (.row [.str [], .str []]))=some (h1.new h1.next (.row z.cells)):=zj wG (by omega) rfl rfl rfl;have hcl:=fun g=>zUJ hc sm z.a z.b f3.way f2.rel g;have hv2:zR true 2 z.cells 0=some (.agg z.cells):=zB rfl (by omega);have hv2':zR true 2 z.cells 0=some (.agg [.str z.a, .str z.b]):=hv2;have hE2:∀o,Ext g (h1.new h1.next o):=fun o=>hE1.new hE1.1 o;clear hj hE hlk
  repeat' first|simp only[go_sem,zGc, *]|apply bc<;>intro hc
  obtain⟨H,hH1,hrow,hEH⟩:∃H,h1.new h1.next (.row z.cells)=H∧H.at' h1.next=some (.row z.cells)∧Ext g H:=⟨_,rfl,zJ _ _ _,hE2 _⟩;rw[hH1];have hv4:zR true 4 [ca,cb,ce,cp,x, .map m1, .map m2] 0=some (.agg [ca,cb,ce,cp]):=by simp[zR]
  clear hst hE2 hH1 hv2;refine zz Heap.emp [(4, .no,false),(0, .no,false),(1, .no,false),(2, .no,false),(3, .no,false),(5, .no,false),(6, .no,false),(7, .no,false),(8, .no,false),(9, .no,false),(10, .no,false),(11, .no,false),(12, .no,false),(13, .no,false),(14, .no,false),(15, .no,false),(16, .no,false),(17, .no,false),(18, .no,false),(19, .no,false),(20, .no,false),(21, .no,false),(22, .no,false),(25, .no,false),(23, .no,false),(24, .no,false)] (by kernel_rfl) (by kernel_rfl) (fun i ob e=>by cases e) ?_
  repeat' first|simp only[go_sem,zGc,zW, *]|apply bc<;>intro hc
  refine(hcl _).mono ?_;rintro r H2 ⟨hq2,cs,hcs,hfine,hkey⟩;subst hq2;rw[←zUs hkey] at hzv;have hlc:=zCY hcs;have hcl0:cs.length≤1048576:=by
   have:=congrArg List.length hkey;simp only[List.length_map] at this;have h2:(zCa c z.a z.b f3.way f2.rel).length≤c.cs.length:=by
    unfold zCa;split
    ·simp
    ·exact List.length_filter_le _ _
   have:=sm.cs.1;omega
  clear hkey hc hx hcl
  repeat' first|simp only[go_sem,zGc, *]|apply bc<;>intro hc
  refine zF (fun j fr h'=>fr 0= .iptr [ca,cb,ce,cp,x, .map m1, .map m2] 0∧fr 2= .int .i64 duty∧fr 3= .fn (.func f) [] cap∧fr 5= .iptr [.int .i64 (t1':Int), .int .i64 (t2':Int), .int .i64 (t3':Int)] 0∧fr 19=a.d∧fr 20= .int .i64 (a.ts.length:Int)∧fr 21= .int .i64 (i:Int)∧fr 48=r∧fr 49= .int .i64 (cs.length:Int)∧fr 50= .int .i64 (j:Int)∧Ext g h'∧∀k (hk:k<cs.length),k<j→zUr duty q cs[k]=false) cs.length (by omega) ?_ ?_ ?_
  ·simp only[go_sem,zGc,true_and,and_true,Int.ofNat_zero];exact⟨f0,f2',f3',f5,f19,f20,f21,hEH,fun j hj h0=>by omega⟩
  ·clear f0 f2' f3' f5 f19 f20 f21;rintro j fr2 h2 hltj e2 ew2 ⟨f0,f2',f3',f5,f19,f20,f21,f48,f49,f50,hE3,hj⟩;have b1:=zDA hcs hltj;have hyf:=hfine _ (List.getElem_mem hltj);have hyt:=fun e=>zH5 (p:=zUr duty q) hltj e;have hyn:=fun e=>yk (p:=zUr duty q) hltj hj e;have hyv:zUr duty q cs[j]=(cs[j].duty==duty&&q cs[j].list):=rfl;generalize cs[j]=y at *
   have hst2:zU Tryz.prog 92 (.ptr h2.next 0) (.agg y.cells) (h2.new h2.next (.row [.str [], .int .i64 0, .int .i64 0, .int .i64 0, .nilsl]))=some (h2.new h2.next (.row y.cells)):=zj zGH (by omega) rfl rfl (by show(true&&(true&&(true&&(true&&(y.d.flat&&true)))))=true;rw[zBs hyf.1.isSl];rfl);have hvy:zR true 5 y.cells 0=some (.agg y.cells):=zB rfl (by omega);have ky:y.cells[3]? =some (.int .i64 y.duty):=rfl;have hEy:Ext g (h2.new h2.next (.row y.cells)):=hE3.new hE3.1 _;obtain⟨H3,hH3,hrow3,hE4⟩:∃H,h2.new h2.next (.row y.cells)=H∧H.at' h2.next=some (.row y.cells)∧Ext g H:=⟨_,rfl,zJ _ _ _,hEy⟩
   rw[hH3] at hst2;have hqy:=hq y hyf H3 fun i hi=>hE4.2 i (hR i hi);simp only[List.nil_append,List.cons_append] at hqy;clear hj hq hR hcs hfine hyf hH3 hE3 hEy hrow hEH hE1 a1 a2 a3 hH hv2' hv4;cases hd:(y.duty==duty) with
   |false=>
    have hn2:=hyn (by rw[hyv,hd];rfl);clear hyv hyt hyn
    repeat' first|simp only[go_sem,zGc, *]|apply bc<;>intro hc
    exact hn2
   |true=>
    cases hqq:q y.list with
    |false=>
     rw[hqq] at hqy;have hn2:=hyn (by rw[hyv,hd,hqq];rfl);clear hyv hyt hyn hqq
     repeat' first|simp only[go_sem,zGc, *]|apply bc<;>intro hc|(refine zA.mono hqy ?_;rintro r h ⟨rfl,rfl⟩)
     exact hn2
    |true=>
     rw[hqq] at hqy;have hn2:zOq c a.ts f3.way f2.rel duty q=true:=hzt (by rw[hzv];exact hyt (by rw[hyv,hd,hqq];rfl));clear hyv hyt hyn hzt hzv hzn hqq
     repeat' first|simp only[go_sem,zGc, *]|apply bc<;>intro hc|(refine zA.mono hqy ?_;rintro r h ⟨rfl,rfl⟩)
  ·clear f0 f2' f3' f5 f19 f20 f21;rintro fr2 h2 e2 ⟨f0,f2',f3',f5,f19,f20,f21,f48,f49,f50,hE3,hj⟩;have hn2:=hzn (by rw[hzv];exact zD2 (p:=zUr duty q) (fun i hi _=>hj i hi hi));clear hj hzn hzv hzt hq hR hcs hfine hrow hEH hE1 a1 a2 a3 hH hv2' hv4
   repeat' first|simp only[go_sem,zGc, *]|apply bc<;>intro hc
   exact hn2
 ·rintro fr h1 e1 ⟨f0,f2',f3',f5,f19,f20,f21,hE1,hj⟩;have hno:zOq c a.ts f3.way f2.rel duty q=false:=zD2 fun i hi _=>hj i hi hi;clear hj hE hlk
  repeat' first|simp only[go_sem,zGc, *]|apply bc<;>intro hc
theorem bs3 (a b c:Int) (nid:Nat) (h:Heap):zM Tryz.prog false nid 31 3 [(0, .int .i64 a),(1, .int .i64 b),(2, .int .i64 c)] h=some (.sl 1 (wT [a,b,c]) .full,h):=by
 simp[zM,yF,zAQ,wL,D.notTuple,D.cells,zA6,qZ,yW,yC,wT]
theorem bs2 (a b:Int) (nid:Nat) (h:Heap):zM Tryz.prog false nid 31 2 [(0, .int .i64 a),(1, .int .i64 b)] h=some (.sl 1 (wT [a,b]) .full,h):=by
 simp[zM,yF,zAQ,wL,D.notTuple,D.cells,zA6,qZ,yW,yC,wT]
theorem bs4 (a b c d:Int) (nid:Nat) (h:Heap):zM Tryz.prog false nid 31 4 [(0, .int .i64 a),(1, .int .i64 b),(2, .int .i64 c),(3, .int .i64 d)] h=some (.sl 1 (wT [a,b,c,d]) .full,h):=by
 simp[zM,yF,zAQ,wL,D.notTuple,D.cells,zA6,qZ,yW,yC,wT]
theorem bs5 (a b c d e:Int) (nid:Nat) (h:Heap):zM Tryz.prog false nid 31 5 [(0, .int .i64 a),(1, .int .i64 b),(2, .int .i64 c),(3, .int .i64 d),(4, .int .i64 e)] h=some (.sl 1 (wT [a,b,c,d,e]) .full,h):=by
 simp[zM,yF,zAQ,wL,D.notTuple,D.cells,zA6,qZ,yW,yC,wT]
theorem bs1 (a:Int) (nid:Nat) (h:Heap):zM Tryz.prog false nid 31 1 [(0, .int .i64 a)] h=some (.sl 1 (wT [a]) .full,h):=by
 simp[zM,yF,zAQ,wL,D.notTuple,D.cells,zA6,qZ,yW,yC,wT]
theorem zDP {fs:List Fac} {al:Nat→Option Alt} {t:Tri} (h:t∈zo fs al):t.1<fs.length∧t.2.1<fs.length∧t.2.2<fs.length∧∃a,al t.1=some a:=by
 unfold zo at h;obtain⟨i,hi,ht⟩:=List.mem_flatMap.1 h;unfold zRe at ht;split at ht
 ·rename_i ha;obtain⟨u,hu,ht⟩:=List.mem_flatMap.1 ht;unfold zRd at ht;obtain⟨v,hv,rfl⟩:=List.mem_map.1 ht;have h1:=(wo _ fs 0 u hu).2;have h2:=(wo _ fs 0 v hv).2;exact⟨List.mem_range.1 hi,by simpa using h1,by simpa using h2,Option.isSome_iff_exists.1 ha⟩
 ·cases ht
theorem qG {α β:Type} {f:α→List β} {m:Nat} :∀ {l:List α},(∀x∈l,(f x).length≤m)→(l.flatMap f).length≤l.length*m
 | [],_=>by simp
 |x::l,h=>by
  have:=qG (f:=f) (l:=l) fun y hy=>h y (List.mem_cons_of_mem _ hy);have h2:=h x (by simp);rw[List.flatMap_cons,List.length_append,List.length_cons,Nat.succ_mul];omega
theorem zUt (fs:List Fac) (al:Nat→Option Alt):(zo fs al).length≤fs.length*(fs.length*fs.length):=by
 unfold zo;refine Nat.le_trans (qG (m:=fs.length*fs.length) fun i _=> ?_) (by rw[List.length_range];exact Nat.le_refl _);unfold zRe;split
 ·refine Nat.le_trans (qG (m:=fs.length) fun u _=> ?_) (Nat.mul_le_mul_right _ (ye _ fs 0));unfold zRd;rw[List.length_map];exact ye _ fs 0
 ·simp
theorem zAa {fs:List Fac} {al:Nat→Option Alt} (h:fs.length≤16):(zo fs al).length≤4096:=
 Nat.le_trans (zUt fs al) (Nat.le_trans (Nat.mul_le_mul h (Nat.mul_le_mul h h)) (by decide))
def yK {α:Type} (l:List α) (V:α→List (List Int)) (k:Nat):List (List Int):=(l.take k).flatMap V
theorem qr {α:Type} {l:List α} {V:α→List (List Int)} {k:Nat} {x:α} (h:l[k]? =some x):yK l V (k+1)=yK l V k++V x:=by
 obtain⟨h1,rfl⟩:=List.getElem?_eq_some_iff.1 h;unfold yK;rw[List.take_succ_eq_append_getElem h1,List.flatMap_append,List.flatMap_cons,List.flatMap_nil,List.append_nil]
theorem zAD {α:Type} (l:List α) (V:α→List (List Int)):yK l V l.length=l.flatMap V:=by unfold yK;rw[List.take_length]
theorem zCg {α:Type} {l:List α} {V:α→List (List Int)} {m:Nat} (h:∀x∈l,(V x).length≤m) (k:Nat):(yK l V k).length≤l.length*m:=
 Nat.le_trans (qG fun x hx=>h x (List.mem_of_mem_take hx)) (Nat.mul_le_mul_right _ (by rw[List.length_take];omega))
theorem zNH (t:Tri) (h:Heap) (id:Nat):zU Tryz.prog 270 (.ptr id 0) (.agg (zBv t)) (h.new id (.row [.int .i64 0, .int .i64 0, .int .i64 0]))=some (h.new id (.row (zBv t))):=zj zZb (by omega) rfl rfl rfl
def zIX (al:Nat→Option Alt) (i:Nat):List Trm:=match al i with
 |some a=>a.ts
 |none=>[]
def qk (c:Cat) (fs:List Fac) (al:Nat→Option Alt) (t:Tri):List (List Int):=
 if zOq c (zIX al t.1) (zER fs t.2.2) (zBW fs t.2.1) 5 (fun _=>true)=true then [[(t.1:Int),(t.2.1:Int),(t.2.2:Int)]] else []
theorem zRf {i:Nat} (h:i<1048576):fits .i64 (i:Int):=zV (by omega) (by omega)
set_option maxHeartbeats 4000000 in
theorem zXB {c:Cat} {fs:List Fac} {al:Nat→Option Alt} {M:KM Int} {O:KV} {sc:List D} {m1 m2:Nat} (hs:Stt c fs al M O sc m1 m2) (hn:fs.length≤16)
  {ff:FuncId} {cap:List D} {Y:List (List Int)→(Nat→Prop)→Heap→Prop} (y:Fnd2 Tryz.prog 5 ff cap Y) {S:Nat→Prop} {w:Heap} (hY:Y [] S w) (hH:StH M O m1 m2 w) (n1:¬S m1) (n2:¬S m2):
  zA Tryz.prog 155 [.iptr sc 0, .fn (.func ff) [] cap] w fun _ h'=>∃S',(∀i,S' i→S i∨w.next≤i)∧But S w h'∧Y ((zo fs al).flatMap (qk c fs al)) S' h':=by
 have hs0:=hs;obtain⟨⟨ca,cb,ce,cp,x,rfl,hc,hx,_⟩,sm,hlen,hok,hget,halt⟩:=hs;have hct:=fun g=>zFN [ca,cb,ce,cp,x, .map m1, .map m2] g;refine zA.of_fn (g:=zMG) mix Tryz.func155 zc5 rfl rfl ?_;simp only[Tryz.f155,gJ]
 repeat' first|simp only[go_sem,zQ7,zEP, *]|apply bc<;>intro hc|(refine zA.mono (hct _) ?_;rintro r h ⟨hq,rfl⟩)
 subst hq;generalize hL:LRec.mk _ _ _ _ _ _ _=L;have hpe:L.pending=none:=by rw[←hL]
 have hrd:L.st= .ready:=by rw[←hL]
 have hYl:=y.lcl fun k=>yK (zo fs al) (qk c fs al) k;have h4:=zAa (al:=al) hn;refine we (W:=WK m1 (.map (kmD (D.int .i64) M)) m2 (.map (kvD O)) fun k=>Y (yK (zo fs al) (qk c fs al) k)) (n:=(zo fs al).length) (el:=elT (zo fs al)) (S:=fun j=>j=m1∨j=m2∨S j) rfl (WK.lcl hYl) hrd hpe ?_ (fun yl hY0=>zCD hs0 yl (fun k S h ⟨_,_,S0,hk,_⟩=>hk.st) hY0) ?_ ?_
 ·exact WK.start hY hH.2.1 hH.2.2 hH.1.1 hH.1.2 n1 n2
 ·intro k S0 h3 hk hid3 hl3 hw3 hn3;obtain⟨t,ht⟩:∃t,(zo fs al)[k]? =some t:=⟨_,List.getElem?_eq_getElem hk⟩;have hgt:(zo fs al).getD k (0,0,0)=t:=by rw[List.getD_eq_getElem?_getD,ht];rfl
  simp only[elT,hgt];obtain⟨p1,p2,p3,a,hal⟩:=zDP (List.mem_of_getElem? ht);have hl3':=hl3;rw[←hL] at hl3';have hst:=zNH t;refine yi.round (g:=zMG) mix hl3' rfl (by kernel_rfl) (by kernel_rfl) (by kernel_rfl) ?_;simp only[go_sem,zQ7,hst];refine⟨by rw[zG (by omega)];exact hl3',?_⟩;generalize hB:LRec.mk .busy _ _ _ _ _ _=B;have hLB:({ B with st:= .ready,pending:=none } :LRec)=L:=by rw[←hB,←hL]
  obtain⟨S1,H,hHe,hHn,hrow,hHi,hbH,hwH,hHH,hw⟩:=Lp.open hYl hw3 hid3 hn3 (.row (zBv t)) B;rw[hHe];clear hst hHe hB;have hch:=zal hs0 p1 p2 p3 hal 5 (q:=fun _=>true) (R:=fun _=>False) (f:=202) (cap:=[]) hHH (fun i hi=>hi.elim) (fun y hy h2 _=>zfK y h2);have hv3:zR true 3 (zBv t) 0=some (.agg (zBv t)):=zB rfl (by omega);have e1:(zBv t)[0]? =some (.int .i64 (t.1:Int)):=rfl;have e2:(zBv t)[1]? =some (.int .i64 (t.2.1:Int)):=rfl;have e3:(zBv t)[2]? =some (.int .i64 (t.2.2:Int)):=rfl;have hts:zIX al t.1=a.ts:=by simp[zIX,hal]
  have hfv:qk c fs al t=if zOq c a.ts (zER fs t.2.2) (zBW fs t.2.1) 5 (fun _=>true)=true then [[(t.1:Int),(t.2.1:Int),(t.2.2:Int)]] else []:=by unfold qk;rw[hts]
  repeat' first|simp only[go_sem,zQ7, *]|apply bc<;>intro hc
  refine hch.mono ?_;rintro r H2 ⟨hE2,rfl⟩;have hrow2:=(hE2.2 _ (by omega)).trans hrow;have hbH2:=hbH.ext1 hE2;have hHi2:=(hE2.2 _ (by omega)).trans hHi;have hwH2:=y.ext hwH hE2;cases hb:zOq c a.ts (zER fs t.2.2) (zBW fs t.2.1) 5 (fun _=>true) with
  |false=>
   rw[hb,if_neg (by decide)] at hfv;have hw5:Y (yK (zo fs al) (qk c fs al) (k+1)) S1 H2:=by rw[qr ht,hfv,List.append_nil];exact hwH2
   have hfin:∀fr,zAG (LpK h.next L (WK m1 (.map (kmD (D.int .i64) M)) m2 (.map (kvD O)) fun k=>Y (yK (zo fs al) (qk c fs al) k)) k S0 h3) h.next .normal fr H2:=fun fr=>Lp.call hYl hLB hid3 hn3 hw hHi2 hbH2 (fun j hj=> .inl hj) (But.refl S1 H2) hw5;simp only[go_sem,zQ7];exact hfin _
  |true=>
   rw[hb,if_pos rfl] at hfv;have hul:(yK (zo fs al) (qk c fs al) k).length<16777216:=by
    have:=zCg (V:=qk c fs al) (l:=zo fs al) (m:=1) (fun t _=>by unfold qk;split<;>simp) k;omega
   have hgo:=y.go _ _ _ [(t.1:Int),(t.2.1:Int),(t.2.2:Int)] .full hwH2 hul (by simp) (by simp) (by
    intro n hn;simp only[List.mem_cons,List.not_mem_nil,or_false] at hn;rcases hn with rfl|rfl|rfl<;>exact zRf (by omega))
   simp only[List.nil_append,List.cons_append] at hgo;have hb3:=bs3 (t.1:Int) (t.2.1:Int) (t.2.2:Int);simp only[go_sem,zQ7,hrow2,e1,e2,e3,hb3];refine hgo.mono ?_;rintro r h5 ⟨S5,hs5,hb5,hw5⟩;have hw6:Y (yK (zo fs al) (qk c fs al) (k+1)) S5 h5:=by rw[qr ht,hfv];exact hw5
   have hfin:∀fr,zAG (LpK h.next L (WK m1 (.map (kmD (D.int .i64) M)) m2 (.map (kvD O)) fun k=>Y (yK (zo fs al) (qk c fs al) k)) k S0 h3) h.next .normal fr h5:=fun fr=>Lp.call hYl hLB hid3 hn3 hw hHi2 hbH2 hs5 hb5 hw6;exact hfin _
 ·intro S2 h5 hs hb hw;obtain⟨S5,hs5,hb5,hw5⟩:=WK.stop hH.1.1 hH.1.2 hs hb hw;rw[zAD] at hw5;simp only[go_sem,zQ7];exact⟨S5,hs5,hb5,hw5⟩
def zIY (own:List UInt8) (l:List (List UInt8)):Bool:= !(l.any fun x=>x==own)
theorem zXC {own:List UInt8} {y:Cla} (hy:y.Fine) {id:Nat} {h:Heap} (hi:h.at' id=some (.row [.str own])):zA Tryz.prog 203 [.agg y.cells, .ptr id 0] h fun r h'=>h'=h∧r= .bool (zIY own y.list):=by
 have hc:=zCS hy.1.isSl hy.2 own;have k1:y.cells[4]? =some y.d:=rfl;obtain⟨q1,q2,_⟩:=zK hy.1.isSl;unfold zIY;refine zA.of_fn (g:=zP0) mix Tryz.func203 zeD rfl rfl ?_;simp only[Tryz.f203,gJ]
 repeat' first|simp only[go_sem,ziF, *]|apply bc<;>intro hc|(refine zA.mono (hc _) ?_;rintro r h ⟨rfl,rfl⟩)
def wp (c:Cat) (fs:List Fac) (al:Nat→Option Alt) (O:KV) (t:Tri):List (List Int):=match ww (wP fs t.2.1) O with
 |none=>[]
 |some own=>if zOq c (zIX al t.1) (zER fs t.2.2) (zBW fs t.2.1) 4 (zIY own)=true then [[(t.1:Int),(t.2.1:Int),(t.2.2:Int)]] else []
set_option maxHeartbeats 4000000 in
theorem zam {c:Cat} {fs:List Fac} {al:Nat→Option Alt} {M:KM Int} {O:KV} {sc:List D} {m1 m2:Nat} (hs:Stt c fs al M O sc m1 m2) (hn:fs.length≤16)
  {ff:FuncId} {cap:List D} {Y:List (List Int)→(Nat→Prop)→Heap→Prop} (y:Fnd2 Tryz.prog 5 ff cap Y) {S:Nat→Prop} {w:Heap} (hY:Y [] S w) (hH:StH M O m1 m2 w) (n1:¬S m1) (n2:¬S m2):
  zA Tryz.prog 156 [.iptr sc 0, .fn (.func ff) [] cap] w fun _ h'=>∃S',(∀i,S' i→S i∨w.next≤i)∧But S w h'∧Y ((zo fs al).flatMap (wp c fs al O)) S' h':=by
 have hs0:=hs;obtain⟨⟨ca,cb,ce,cp,x,rfl,hc,hx,_⟩,sm,hlen,hok,hget,halt⟩:=hs;have hct:=fun g=>zFN [ca,cb,ce,cp,x, .map m1, .map m2] g;refine zA.of_fn (g:=zMI) mix Tryz.func156 zdK rfl rfl ?_;simp only[Tryz.f156,gJ]
 repeat' first|simp only[go_sem,zKq,zEP, *]|apply bc<;>intro hc|(refine zA.mono (hct _) ?_;rintro r h ⟨hq,rfl⟩)
 subst hq;generalize hL:LRec.mk _ _ _ _ _ _ _=L;have hpe:L.pending=none:=by rw[←hL]
 have hrd:L.st= .ready:=by rw[←hL]
 have hYl:=y.lcl fun k=>yK (zo fs al) (wp c fs al O) k;have h4:=zAa (al:=al) hn;refine we (W:=WK m1 (.map (kmD (D.int .i64) M)) m2 (.map (kvD O)) fun k=>Y (yK (zo fs al) (wp c fs al O) k)) (n:=(zo fs al).length) (el:=elT (zo fs al)) (S:=fun j=>j=m1∨j=m2∨S j) rfl (WK.lcl hYl) hrd hpe ?_ (fun yl hY0=>zCD hs0 yl (fun k S h ⟨_,_,S0,hk,_⟩=>hk.st) hY0) ?_ ?_
 ·exact WK.start hY hH.2.1 hH.2.2 hH.1.1 hH.1.2 n1 n2
 ·intro k S0 h3 hk hid3 hl3 hw3 hn3;obtain⟨t,ht⟩:∃t,(zo fs al)[k]? =some t:=⟨_,List.getElem?_eq_getElem hk⟩;have hgt:(zo fs al).getD k (0,0,0)=t:=by rw[List.getD_eq_getElem?_getD,ht];rfl
  simp only[elT,hgt];obtain⟨p1,p2,p3,a,hal⟩:=zDP (List.mem_of_getElem? ht);have hl3':=hl3;rw[←hL] at hl3';have hst:=zNH t;refine yi.round (g:=zMI) mix hl3' rfl (by kernel_rfl) (by kernel_rfl) (by kernel_rfl) ?_;simp only[go_sem,zKq,hst];refine⟨by rw[zG (by omega)];exact hl3',?_⟩;generalize hB:LRec.mk .busy _ _ _ _ _ _=B;have hLB:({ B with st:= .ready,pending:=none } :LRec)=L:=by rw[←hB,←hL]
  obtain⟨S1,H,hHe,hHn,hrow,hHi,hbH,hwH,hHH,hw⟩:=Lp.open hYl hw3 hid3 hn3 (.row (zBv t)) B;rw[hHe];clear hst hHe hB;have hv3:zR true 3 (zBv t) 0=some (.agg (zBv t)):=zB rfl (by omega);have e1:(zBv t)[0]? =some (.int .i64 (t.1:Int)):=rfl;have e2:(zBv t)[1]? =some (.int .i64 (t.2.1:Int)):=rfl;have e3:(zBv t)[2]? =some (.int .i64 (t.2.2:Int)):=rfl;have hts:zIX al t.1=a.ts:=by simp[zIX,hal]
  have a2:=qf hx p2;have ho:wP fs t.2.1=fs[t.2.1].out:=by simp[wP,p2]
  have k2:fs[t.2.1].cells[2]? =some (.str fs[t.2.1].out):=rfl;rw[←ho] at k2;clear ho;obtain⟨h0,hleH,hleN,hlow⟩:=Heap.low H;obtain⟨n5,hn5⟩:∃n,H.next=n:=⟨_,rfl⟩;have hst5:∀s,zU Tryz.prog 9 (.ptr n5 0) (.str s) (H.new n5 (.row [.str []]))=some (H.new n5 (.row [.str s])):=fun s=>by
   rw[za (zJ _ _ _) zAh (by simp) rfl rfl,zEG];rfl
  have hrow0:=(hlow h3.next (by omega)).trans hrow;have hlk:=zUo (by rw[hlow m2 hHH.2.2];exact hHH.1.2) (wP fs t.2.1) true;have h35:h3.next<n5:=by omega
  have hnew:∀o,∃G,H.new n5 o=G∧Ext H G∧G.at' n5=some o∧G.at' h3.next=some (.row (zBv t))∧n5<G.next∧But (fun j=>j=h.next) h3 G∧G.at' h.next=some (.loop B)∧Y (yK (zo fs al) (wp c fs al O) k) S1 G∧StH M O m1 m2 G:=fun o=>by
   have hE:Ext H (H.new n5 o):=(Ext.refl H).new (by omega) _;exact⟨_,rfl,hE,zJ _ _ _,(hE.2 _ (by omega)).trans hrow,by rw[zm _ (by omega)];omega,hbH.ext1 hE,(hE.2 _ (by omega)).trans hHi,y.ext hwH hE,StH.ext hHH hE⟩
  rw[hn5] at hleN;have hfin:∀ {fr:Frm} {G h5:Heap} {S5:Nat→Prop},G.at' h.next=some (.loop B)→But (fun j=>j=h.next) h3 G→(∀j,S5 j→S1 j∨G.next≤j)→But S1 G h5→Y (yK (zo fs al) (wp c fs al O) (k+1)) S5 h5→zAG (LpK h.next L (WK m1 (.map (kmD (D.int .i64) M)) m2 (.map (kvD O)) fun k=>Y (yK (zo fs al) (wp c fs al O) k)) k S0 h3) h.next .normal fr h5:=fun a1 a2 a3 a4 a5=>Lp.call hYl hLB hid3 hn3 hw a1 a2 a3 a4 a5;rw[qr ht] at hfin;clear hHn hHi hbH hwH hHH hrow hlow
  refine zz h0 [(0, .st,true),(4, .st,true),(1, .no,true),(2, .no,true),(3, .st,true),(5, .no,true),(6, .no,true),(7, .st,true),(8, .no,true),(9, .st,true),(10, .no,true),(11, .no,true),(12, .st,true),(13, .st,true),(14, .no,true),(15, .no,true),(16, .no,true),(17, .no,true),(18, .no,false),(19, .no,false)] (by kernel_rfl) (by kernel_rfl) hleH ?_;cases hov:ww (wP fs t.2.1) O with
  |none=>
   rw[hov] at hlk;replace hlk:yS Tryz.prog 149 (.map m2) (.str (wP fs t.2.1)) true h0=some (.tuple [.str [], .bool false]):=hlk;have hv0:wp c fs al O t= []:=by unfold wp;rw[hov]
   rw[hv0,List.append_nil] at hfin;obtain⟨G,hG,hEG,g1,g2,g3,g4,g5,g6,_⟩:=hnew (.row [.str []]);have hfn:=fun fr=>hfin (fr:=fr) g5 g4 (fun j hj=> .inl hj) (But.refl S1 G) g6;have hst6:=hst5 [];have hleG:=hleN (.row [.str []]);rw[hG] at hst6 hleG;clear hw hL hLB hs0 hY hH hw3 hl3' hl3 ht hnew hfin hov g1 g2 g3 g4 g5 g6 hEG
   repeat' first|simp only[go_sem,zKq,zW, *]|apply bc<;>intro hc
   refine zUn _ hlk ?_
   repeat' first|simp only[go_sem,zKq,zW, *]|apply bc<;>intro hc
  |some own=>
   rw[hov] at hlk;replace hlk:yS Tryz.prog 149 (.map m2) (.str (wP fs t.2.1)) true h0=some (.tuple [.str own, .bool true]):=hlk;have hv0:wp c fs al O t=if zOq c a.ts (zER fs t.2.2) (zBW fs t.2.1) 4 (zIY own)=true then [[(t.1:Int),(t.2.1:Int),(t.2.2:Int)]] else []:=by unfold wp;rw[hov];simp only[hts]
   rw[hv0] at hfin;obtain⟨G,hG,hEG,g1,g2,g3,g4,g5,g6,g7⟩:=hnew (.row [.str own]);have hch:=zal hs0 p1 p2 p3 hal 4 (q:=zIY own) (R:=fun j=>j=n5) (f:=203) (cap:=[.ptr n5 0]) g7 (fun i hi=>by rw[hi];exact g3) (fun z hz h2 hr=>zXC hz (by rw[hr _ rfl,g1]));have hul:(yK (zo fs al) (wp c fs al O) k).length<16777216:=by
    have:=zCg (V:=wp c fs al O) (l:=zo fs al) (m:=1) (fun t _=>by
     unfold wp;split
     ·simp
     ·split<;>simp) k
    omega
   have hb3:=bs3 (t.1:Int) (t.2.1:Int) (t.2.2:Int);have hgo:=fun S h hy=>y.go _ S h [(t.1:Int),(t.2.1:Int),(t.2.2:Int)] .full hy hul (by simp) (by simp) (by
    intro n hn;simp only[List.mem_cons,List.not_mem_nil,or_false] at hn;rcases hn with rfl|rfl|rfl<;>exact zRf (by omega))
   simp only[List.nil_append,List.cons_append] at hgo;clear hw hL hLB hY hH hw3 hl3' hl3 ht hnew hov hs0 hct
   repeat' first|simp only[go_sem,zKq,zW, *]|apply bc<;>intro hc
   refine zUn _ hlk ?_
   repeat' first|simp only[go_sem,zKq,zW, *]|apply bc<;>intro hc
   refine hch.mono ?_;rintro r H2 ⟨hE2,rfl⟩;have hrow2:=(hE2.2 _ (by omega)).trans g2;have hbH2:=g4.ext1 hE2;have hHi2:=(hE2.2 _ (by omega)).trans g5;have hwH2:=y.ext g6 hE2;cases hb:zOq c a.ts (zER fs t.2.2) (zBW fs t.2.1) 4 (zIY own) with
   |false=>
    rw[hb,if_neg (by decide),List.append_nil] at hfin;simp only[go_sem,zKq];exact hfin hHi2 hbH2 (fun j hj=> .inl hj) (But.refl S1 H2) hwH2
   |true=>
    rw[hb,if_pos rfl] at hfin;simp only[go_sem,zKq,hrow2,e1,e2,e3,hb3];refine(hgo _ _ hwH2).mono ?_;rintro r h5 ⟨S5,hs5,hb5,hw5⟩;exact hfin hHi2 hbH2 hs5 hb5 hw5
 ·intro S2 h5 hs hb hw;obtain⟨S5,hs5,hb5,hw5⟩:=WK.stop hH.1.1 hH.1.2 hs hb hw;rw[zAD] at hw5;simp only[go_sem,zKq];exact⟨S5,hs5,hb5,hw5⟩
end Go.V
