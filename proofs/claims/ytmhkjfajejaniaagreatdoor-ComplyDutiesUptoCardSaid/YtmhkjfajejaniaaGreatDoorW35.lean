/- Rules of the machine of abstract values, part 11. No condition. -/
import Derived.Test.YtmhkjfajejaniaaGreatDoorW32
import Derived.Test.YtmhkjfajejaniaaGreatDoorW22
import Derived.Test.YtmhkjfajejaniaaGreatDoorW34
import Derived.Test.YtmhkjfajejaniaaGreatDoorW30
set_option linter.all false
namespace Go.V
abbrev KM (κ:Type):=List (κ×D)
def kmD {κ:Type} (enc:κ→D) (m:KM κ):List (D×D):=m.map fun p=>(enc p.1,p.2)
def zCw {κ:Type} [BEq κ] (k:κ):KM κ→Option D
 | []=>none
 |(k',v)::m=>if k==k' then some v else zCw k m
def zDs {κ:Type} [BEq κ] (k:κ) (v:D):KM κ→KM κ
 | []=>[(k,v)]
 |(k',v')::m=>if k==k' then(k,v)::m else(k',v')::zDs k v m
structure KEnc {κ:Type} [BEq κ] (enc:κ→D) (ag:Bool) (ks:List Kd):Prop where
 eq:∀a b,eqK ks (enc a).cells (enc b).cells=some (a==b)
 shape:∀a,zP ag (enc a)=true
section
variable {κ:Type} [BEq κ] {enc:κ→D} {ag:Bool} {ks:List Kd} (E:KEnc enc ag ks)
include E
theorem zLN (k:κ):∀m:KM κ,zBq ks (enc k) (kmD enc m)=some (zCw k m)
 | []=>rfl
 |(k',v)::m=>by
  have ih:=zLN k m;show(match eqK ks (enc k).cells (enc k').cells with|some true=>some (some v)|some false=>zBq ks (enc k) (kmD enc m)|none=>none)=_
  rw[E.eq];cases h:(k==k') with
  |true=>simp[zCw,h]
  |false=>simp only[zCw,h,ih];rfl
theorem zU4 (k:κ) (v:D):∀m:KM κ,zO8 ks (enc k) v (kmD enc m)=some (kmD enc (zDs k v m))
 | []=>rfl
 |(k',v')::m=>by
  have ih:=zU4 k v m;show(match eqK ks (enc k).cells (enc k').cells with|some true=>some ((enc k,v)::kmD enc m)|some false=>(zO8 ks (enc k) v (kmD enc m)).map ((enc k',v'):: ·)|none=>none)=_
  rw[E.eq];cases h:(k==k') with
  |true=>simp[zDs,h,kmD]
  |false=>simp only[zDs,h,ih];rfl
theorem zNF (m:KM κ):(kmD enc m).all (fun x=>zP ag x.1)=true:=by
 rw[List.all_eq_true];intro x hx;obtain⟨p,_,rfl⟩:=List.mem_map.1 hx;exact E.shape _
omit E in
theorem zNG [LawfulBEq κ] (k k':κ) (v:D):∀m:KM κ,zCw k (zDs k' v m)=if k==k' then some v else zCw k m
 | []=>by simp[zDs,zCw]
 |(k2,v2)::m=>by
  have ih:=zNG k k' v m;simp only[zDs];by_cases h:k'=k2
  ·subst h;simp only[beq_self_eq_true,if_true,zCw];by_cases g:k=k'
   ·subst g;simp
   ·simp[g]
  ·have hb:(k'==k2)=false:=by simp[h]
   simp only[hb,Bool.false_eq_true,if_false,zCw,ih];by_cases g:k=k2
   ·subst g
    have:(k==k')=false:=by simp;exact fun e=>h e.symm
    simp[this]
   ·simp[g]
variable {P:Program} {t kt e:TypeId} {z:D} {id:Nat} {h:Heap} {m:KM κ}
theorem zJx (hi:h.at' id=some (.map (kmD enc m))) (hm:zNg P t=some (kt,e)) (hk:zNh P kt=some (ag,ks)) (hz:qD P e=some z) (k:κ) (hr:(k==k)=true) (ok:Bool):
  yQ P t (.map id) (enc k) ok h=some (zDx ok z (zCw k m)):=by
 simp only[yQ,hm,hk,hz,zIl,hi,zC1,zNF E,E.eq,E.shape,zLN E,Option.isSome_some,Bool.and_self,if_true]
theorem zFM (hi:h.at' id=some (.map (kmD enc m))) (hm:zNg P t=some (kt,e)) (hk:zNh P kt=some (ag,ks)) (k:κ) (v:D):
  yJ P t (.map id) (enc k) v h=some (h.set id (.map (kmD enc (zDs k v m)))):=by
 simp only[yJ,hm,hk,hi,zNF E,E.eq,E.shape,zLN E,zU4 E,Option.isSome_some,Bool.and_self,if_true]
end
theorem zfn:KEnc (fun i:Int=>D.int .i64 i) false [.i]:=
 ⟨fun a b=>by show(if IntKind.i64=IntKind.i64 then(eqK [] [] []).map (a==b&& ·) else none)=_;simp[eqK],fun _=>rfl⟩
structure Fnd2 (P:Program) (mx:Nat) (f:FuncId) (cap:List D) (Y:List (List Int)→(Nat→Prop)→Heap→Prop):Prop where
 here:∀ks S h,Y ks S h→∀i,S i→i<h.next
 loc:∀ks S h h',Y ks S h→h.next≤h'.next→(∀i,S i→h'.at' i=h.at' i)→Y ks S h'
 go:∀ks S h l tk,Y ks S h→ks.length<16777216→0<l.length→l.length≤mx→(∀n∈l,fits .i64 n)→zA P f ([]++ [.sl 1 (wU l) tk]++cap) h fun _ h'=>∃S',(∀i,S' i→S i∨h.next≤i)∧But S h h'∧Y (ks++ [l]) S' h'
theorem Fnd2.lcl {P:Program} {mx:Nat} {f:FuncId} {cap:List D} {Y:List (List Int)→(Nat→Prop)→Heap→Prop} (y:Fnd2 P mx f cap Y) (els:Nat→List (List Int)):Lcl fun k=>Y (els k):=
 ⟨fun k=>y.here (els k),fun k=>y.loc (els k)⟩
theorem Fnd2.ext {P:Program} {mx:Nat} {f:FuncId} {cap:List D} {Y:List (List Int)→(Nat→Prop)→Heap→Prop} (y:Fnd2 P mx f cap Y) {ks:List (List Int)} {S:Nat→Prop} {h h':Heap} (hy:Y ks S h) (he:Ext h h'):Y ks S h':=
 y.loc ks S h h' hy he.1 fun i hi=>he.2 i (y.here ks S h hy i hi)
section
variable {W:Nat→(Nat→Prop)→Heap→Prop} {id m1 m2 k:Nat} {o1 o2:Obj} {L B:LRec} {h3 H h5:Heap} {S0 S1 S5:Nat→Prop} {fr:Frm}
theorem Lcl.round (hW:Lcl W) (hw:W k S1 h3) (hS0:∀i,S1 i→S0 i) (hn3:¬S0 id) (hbH:But (fun i=>i=id) h3 H):W k S1 H:=
 hW.loc _ _ _ _ hw hbH.1 fun i hi=>hbH.2 i (hW.here _ _ _ hw i hi) fun e=>hn3 (by rw[←e];exact hS0 i hi)
theorem Lp.call (hW:Lcl W) (hLB:({ B with st:= .ready,pending:=none } :LRec)=L) (h3i:id<h3.next) (hn3:¬S0 id) (hw3:W k S1 h3∧(m1<h3.next∧m2<h3.next)∧(h3.at' m1=some o1∧h3.at' m2=some o2)∧(¬S1 m1∧¬S1 m2)∧∀i,S0 i↔(i=m1∨i=m2∨S1 i))
  (hHi:H.at' id=some (.loop B)) (hbH:But (fun i=>i=id) h3 H) (hs5:∀j,S5 j→S1 j∨H.next≤j) (hb5:But S1 H h5) (hw:W (k+1) S5 h5):
  wB (LpK id L (WK m1 o1 m2 o2 W) k S0 h3) id .normal fr h5:=by
 obtain⟨_,⟨l1,l2⟩,⟨a1,a2⟩,⟨n1,n2⟩,hS0⟩:=hw3;have hb0:=hbH.1;have hb50:=hb5.1;have i1:m1≠id:=fun e=>hn3 (by rw[←e];exact(hS0 _).2 (.inl rfl));have i2:m2≠id:=fun e=>hn3 (by rw[←e];exact(hS0 _).2 (.inr (.inl rfl)));have i3:¬S1 id:=fun e=>hn3 ((hS0 _).2 (.inr (.inr e)));refine Lp.fin (WK.lcl hW) hLB h3i hn3 (S':=fun i=>i=m1∨i=m2∨S5 i) ?_ (fun i hi=> ?_) ⟨by omega,fun i hi hn=> ?_⟩ ⟨S5,hw,⟨by omega,by omega⟩,⟨?_,?_⟩,⟨fun e=> ?_,fun e=> ?_⟩,fun i=>Iff.rfl⟩
 ·rw[hb5.2 _ (by omega) i3];exact hHi
 ·rcases hi with rfl|rfl|hi
  ·exact .inl ((hS0 _).2 (.inl rfl))
  ·exact .inl ((hS0 _).2 (.inr (.inl rfl)))
  ·exact(hs5 i hi).imp (fun q=>(hS0 _).2 (.inr (.inr q))) fun q=>by omega
 ·rw[hb5.2 i (by omega) fun e=>hn (.inr ((hS0 _).2 (.inr (.inr e)))),hbH.2 i hi fun e=>hn (.inl e)]
 ·rw[hb5.2 _ (by omega) n1,hbH.2 _ l1 i1];exact a1
 ·rw[hb5.2 _ (by omega) n2,hbH.2 _ l2 i2];exact a2
 ·rcases hs5 _ e with q|q
  ·exact n1 q
  ·omega
 ·rcases hs5 _ e with q|q
  ·exact n2 q
  ·omega
theorem Lp.open (hW:Lcl W) (hw3:WK m1 o1 m2 o2 W k S0 h3) (hid:id<h3.next) (hn3:¬S0 id) (o:Obj) (B:LRec):
  ∃S1 H,(h3.new h3.next o).set id (.loop B)=H∧H.next=h3.next+1∧H.at' h3.next=some o∧H.at' id=some (.loop B)∧But (fun j=>j=id) h3 H∧W k S1 H∧((H.at' m1=some o1∧H.at' m2=some o2)∧(m1<H.next∧m2<H.next))∧
   (W k S1 h3∧(m1<h3.next∧m2<h3.next)∧(h3.at' m1=some o1∧h3.at' m2=some o2)∧(¬S1 m1∧¬S1 m2)∧∀i,S0 i↔(i=m1∨i=m2∨S1 i)):=by
 obtain⟨S1,a1,⟨l1,l2⟩,⟨e1,e2⟩,⟨n1,n2⟩,hS0⟩:=hw3;have i1:m1≠id:=fun e=>hn3 (by rw[←e];exact(hS0 _).2 (.inl rfl));have i2:m2≠id:=fun e=>hn3 (by rw[←e];exact(hS0 _).2 (.inr (.inl rfl)));have hnx:((h3.new h3.next o).set id (.loop B)).next=h3.next+1:=by rw[ze,zD]
 have hb:But (fun j=>j=id) h3 ((h3.new h3.next o).set id (.loop B)):=⟨by omega,fun j hj hn=>by rw[zE hn,zF (by omega)]⟩;exact⟨S1,_,rfl,hnx,by rw[zE (by omega),zJ],zC _ _ _,hb,Lcl.round hW a1 (fun i hi=>(hS0 _).2 (.inr (.inr hi))) hn3 hb,⟨⟨by rw[hb.2 _ l1 i1];exact e1,by rw[hb.2 _ l2 i2];exact e2⟩,by omega,by omega⟩,a1,⟨l1,l2⟩,⟨e1,e2⟩,⟨n1,n2⟩,hS0⟩
theorem But.ext1 {S:Nat→Prop} {a b c:Heap} (hb:But S a b) (he:Ext b c):But S a c:=hb.trans (he.but S) fun i hi=> .inl hi
theorem Heap.low (H:Heap):∃h0,HLe h0 H∧(∀o,HLe h0 (H.new H.next o))∧∀i,i<H.next→h0.at' i=H.at' i:=
 ⟨⟨H.next,fun i=>if i=H.next then none else H.at' i⟩,fun i ob e=>by
   simp only at e;split at e
   ·cases e
   ·exact e,fun o i ob e=>by
   simp only at e;split at e
   ·cases e
   ·rename_i hi;rw[zF hi];exact e,fun i hi=>by
   simp only;rw[if_neg (by omega)]⟩
end
def zfo (P:Program) (h0:Heap) (t:TypeId) (m k:D) (ok:Bool) (K:D→Prop):Prop:=∃d,(∀h',HLe h0 h'→onS (yQ P t m k ok h') fun d'=>d'=d∧h'=h')∧K d
@[congr] theorem zcb {P:Program} {h0:Heap} {t:TypeId} {m m' k k':D} {ok:Bool} {K:D→Prop} (hf:m=m') (ha:k=k'):zfo P h0 t m k ok K=zfo P h0 t m' k' ok K:=by rw[hf,ha]
@[go_sem ↓] theorem zXU {P:Program} {h0:Heap} {fr:Frm} (t:TypeId) (a b:Operand) (ok:Bool) (K:D→Prop):zHz P h0 (.lookup t a b ok) (zw fr) K=zfo P h0 t (zw fr a) (zw fr b) ok K:=by
 unfold zHz zfo zVs;simp only[go_sem]
theorem zU5 {P:Program} {h0:Heap} {t:TypeId} {m k:D} {ok:Bool} {K:D→Prop} (d:D) (hv:yQ P t m k ok h0=some d) (hk:K d):zfo P h0 t m k ok K:=
 ⟨d,fun h' hle=>by rw[zJQ hle hv];exact⟨rfl,rfl⟩,hk⟩
open Go.Proofs
set_option maxRecDepth 100000
structure Stt (c:Cat) (fs:List Fac) (al:Nat→Option Alt) (M:KM Int) (O:KV) (sc:List D) (m1 m2:Nat):Prop where
 sc:∃a b e p x,sc= [a,b,e,p,x, .map m1, .map m2]∧qW c (.agg [a,b,e,p])∧zf 12 (zFC fs) x∧zf 4 (zCc c.ls) a
 sm:c.Sm
 len:fs.length≤256
 ok:∀f∈fs,f.Ok
 get:∀i,i<fs.length→zCw (i:Int) M=(al i).map Alt.d
 alt:∀i a,al i=some a→a.Ok
def StH (M:KM Int) (O:KV) (m1 m2:Nat) (h:Heap):Prop:=
 (h.at' m1=some (.map (kmD (D.int .i64) M))∧h.at' m2=some (.map (kvD O)))∧(m1<h.next∧m2<h.next)
theorem StH.ext {M:KM Int} {O:KV} {m1 m2:Nat} {h h':Heap} (s:StH M O m1 m2 h) (e:Ext h h'):StH M O m1 m2 h':=by
 obtain⟨⟨a,b⟩,c,d⟩:=s;have:=e.1;exact⟨⟨by rw[e.2 _ c];exact a,by rw[e.2 _ d];exact b⟩,by omega,by omega⟩
theorem zLO {c:Cat} {fs:List Fac} {al:Nat→Option Alt} {M:KM Int} {O:KV} {sc:List D} {m1 m2:Nat} (hs:Stt c fs al M O sc m1 m2) {h:Heap} (hh:h.at' m1=some (.map (kmD (D.int .i64) M))) {i:Nat} (hi:i<fs.length) (ok:Bool):
  yQ Tryz.prog 148 (.map m1) (.int .i64 (i:Int)) ok h=some (zDx ok .nilsl ((al i).map Alt.d)):=by
 rw[←hs.get i hi];exact zJx zfn hh zPZ zXy zKe (i:Int) (by simp) ok
theorem zU6 {O:KV} {m2:Nat} {h:Heap} (hh:h.at' m2=some (.map (kvD O))) (s:List UInt8) (ok:Bool):
  yQ Tryz.prog 149 (.map m2) (.str s) ok h=some (zDx ok (.str []) ((zFr s O).map .str)):=
 zRT hh zPa zMI zHg s ok
abbrev Tri:=Nat×Nat×Nat
def qH (fs:List Fac) (i:Nat):List UInt8:=match fs[i]? with
 |some f=>f.comp
 |none=>[]
def qX (fs:List Fac) (i:Nat):List UInt8:=match fs[i]? with
 |some f=>f.out
 |none=>[]
def zRq (fs:List Fac) (i u:Nat):List Tri:=(fIx 2 (fun g=>g.out==qX fs u) fs).map fun h=>(i,u,h)
def zRr (fs:List Fac) (al:Nat→Option Alt) (i:Nat):List Tri:=if(al i).isSome=true then(fIx 0 (fun g=>g.comp==qH fs i) fs).flatMap (zRq fs i) else []
def zo (fs:List Fac) (al:Nat→Option Alt):List Tri:=(List.range fs.length).flatMap (zRr fs al)
def zBw (t:Tri):List D:=[.int .i64 (t.1:Int), .int .i64 (t.2.1:Int), .int .i64 (t.2.2:Int)]
abbrev elT (l:List Tri) (k:Nat):List D:=[.agg (zBw (l.getD k (0,0,0)))]
def zEQ (sc:List D):D:= .fn (.func 262) [] [.iptr [.iptr sc 0] 0]
theorem zFN (sc:List D) (h:Heap):zA Tryz.prog 200 [.iptr sc 0] h fun r h'=>h'=h∧r=zEQ sc:=by
 refine zA.of_fn (g:=zPi) mix Tryz.func200 zdw rfl rfl ?_;simp only[Tryz.f200,gJ];simp only[go_sem,zh6,zEQ]
theorem zfp (f g:Fac) {id:Nat} {h:Heap} (hi:h.at' id=some (.row f.cells)):zA Tryz.prog 263 [.agg g.cells, .ptr id 0] h fun r h'=>h'=h∧r= .bool (g.comp==f.comp):=by
 have k1:f.cells[1]? =some (.str f.comp):=rfl;have k2:g.cells[1]? =some (.str g.comp):=rfl;refine zA.of_fn (g:=zPd) mix Tryz.func263 zdi rfl rfl ?_;simp only[Tryz.f263,gJ]
 repeat' first|simp only[go_sem,zhs, *]|apply bc<;>intro hc
theorem zfq {fs:List Fac} {sc:List D} {x:D} (hsc:sc[4]? =some x) (hx:zf 12 (zFC fs) x) {u:Nat} (hu:u<fs.length) (g:Fac) {id:Nat} {h:Heap} (hi:h.at' id=some (.row [.int .i64 (u:Int)])):
  zA Tryz.prog 264 [.agg g.cells, .iptr [.iptr sc 0] 0, .ptr id 0] h fun r h'=>h'=h∧r= .bool (g.out==qX fs u):=by
 have k1:fs[u].cells[2]? =some (.str fs[u].out):=rfl;have k2:g.cells[2]? =some (.str g.out):=rfl;have ha:=yy hx hu;have ho:qX fs u=fs[u].out:=by simp[qX,hu]
 refine zA.of_fn (g:=zPl) mix Tryz.func264 zd1 rfl rfl ?_;simp only[Tryz.f264,gJ]
 repeat' first|simp only[go_sem,zd0, *]|apply bc<;>intro hc
 refine zx Heap.emp [(2, .no,false),(6, .no,false),(0, .no,false),(1, .no,false),(3, .no,false),(4, .no,false),(5, .no,false),(7, .no,false),(8, .no,false),(9, .no,false),(10, .no,false),(11, .no,false)] (by kernel_rfl) (by kernel_rfl) (fun i ob e=>by cases e) ?_
 repeat' first|simp only[go_sem,zd0,zX, *]|apply bc<;>intro hc
def WL (l:List (Nat×Obj)) (W:Nat→(Nat→Prop)→Heap→Prop) (k:Nat) (S:Nat→Prop) (h:Heap):Prop:=
 ∃S1,W k S1 h∧(∀p∈l,p.1<h.next∧h.at' p.1=some p.2∧¬S1 p.1)∧∀i,S i↔((∃p∈l,i=p.1)∨S1 i)
section
variable {l:List (Nat×Obj)} {W:Nat→(Nat→Prop)→Heap→Prop} {id k:Nat} {L B:LRec} {h h3 H h5:Heap} {S S0 S1 S5 S':Nat→Prop} {fr:Frm}
theorem WL.lcl (hW:Lcl W):Lcl (WL l W):=by
 refine⟨fun k S h y i hi=> ?_,fun k S h h' y hn hk=> ?_⟩
 ·obtain⟨S1,a1,a2,a3⟩:=y;rcases(a3 i).1 hi with⟨p,hp,rfl⟩ |q
  ·exact(a2 p hp).1
  ·exact hW.here _ _ _ a1 i q
 ·obtain⟨S1,a1,a2,a3⟩:=y;refine⟨S1,hW.loc _ _ _ _ a1 hn fun i hi=>hk i ((a3 i).2 (.inr hi)),fun p hp=> ?_,a3⟩;obtain⟨b1,b2,b3⟩:=a2 p hp;exact⟨by omega,by rw[hk p.1 ((a3 _).2 (.inl ⟨p,hp,rfl⟩))];exact b2,b3⟩
theorem WL.start (hw:W k S h) (h1:∀p∈l,p.1<h.next∧h.at' p.1=some p.2∧¬S p.1):WL l W k (fun i=>(∃p∈l,i=p.1)∨S i) h:=
 ⟨S,hw,h1,fun _=>Iff.rfl⟩
theorem WL.stop {h':Heap} (h1:∀p∈l,h.at' p.1=some p.2) (hs:∀i,S' i→((∃p∈l,i=p.1)∨S i)∨h.next≤i) (hb:But (fun i=>(∃p∈l,i=p.1)∨S i) h h') (hw:WL l W k S' h'):
  ∃S1,(∀i,S1 i→S i∨h.next≤i)∧But S h h'∧W k S1 h':=by
 obtain⟨S1,a1,a2,a3⟩:=hw;refine⟨S1,fun i hi=> ?_,⟨hb.1,fun i hi hn=> ?_⟩,a1⟩
 ·rcases hs i ((a3 i).2 (.inr hi)) with(⟨p,hp,rfl⟩ |q)|q
  ·exact absurd hi (a2 p hp).2.2
  ·exact .inl q
  ·exact .inr q
 ·by_cases q:∃p∈l,i=p.1
  ·obtain⟨p,hp,rfl⟩:=q;rw[(a2 p hp).2.1,h1 p hp]
  ·exact hb.2 i hi fun e=>e.elim q hn
theorem WL.st (hw:WL l W k S h):∀p∈l,p.1<h.next∧h.at' p.1=some p.2:=by
 obtain⟨S1,_,b,_⟩:=hw;exact fun p hp=>⟨(b p hp).1,(b p hp).2.1⟩
theorem Lp.callL (hW:Lcl W) (hLB:({ B with st:= .ready,pending:=none } :LRec)=L) (h3i:id<h3.next) (hn3:¬S0 id) (hw3:W k S1 h3∧(∀p∈l,p.1<h3.next∧h3.at' p.1=some p.2∧¬S1 p.1)∧∀i,S0 i↔((∃p∈l,i=p.1)∨S1 i))
  (hHi:H.at' id=some (.loop B)) (hbH:But (fun i=>i=id) h3 H) (hs5:∀j,S5 j→S1 j∨H.next≤j) (hb5:But S1 H h5) (hw:W (k+1) S5 h5):
  wB (LpK id L (WL l W) k S0 h3) id .normal fr h5:=by
 obtain⟨_,a2,hS0⟩:=hw3;have hb0:=hbH.1;have hb50:=hb5.1;have i3:¬S1 id:=fun e=>hn3 ((hS0 _).2 (.inr e));refine Lp.fin (WL.lcl hW) hLB h3i hn3 (S':=fun i=>(∃p∈l,i=p.1)∨S5 i) ?_ (fun i hi=> ?_) ⟨by omega,fun i hi hn=> ?_⟩ ⟨S5,hw,fun p hp=> ?_,fun i=>Iff.rfl⟩
 ·rw[hb5.2 _ (by omega) i3];exact hHi
 ·rcases hi with⟨p,hp,rfl⟩ |hi
  ·exact .inl ((hS0 _).2 (.inl ⟨p,hp,rfl⟩))
  ·exact(hs5 i hi).imp (fun q=>(hS0 _).2 (.inr q)) fun q=>by omega
 ·rw[hb5.2 i (by omega) fun e=>hn (.inr ((hS0 _).2 (.inr e))),hbH.2 i hi fun e=>hn (.inl e)]
 ·obtain⟨b1,b2,b3⟩:=a2 p hp;have i1:p.1≠id:=fun e=>hn3 (by rw[←e];exact(hS0 _).2 (.inl ⟨p,hp,rfl⟩));refine⟨by omega,by rw[hb5.2 _ (by omega) b3,hbH.2 _ b1 i1];exact b2,fun e=> ?_⟩;rcases hs5 _ e with q|q
  ·exact b3 q
  ·omega
theorem Lp.openL (hW:Lcl W) (hw3:WL l W k S0 h3) (hid:id<h3.next) (hn3:¬S0 id) (o:Obj) (B:LRec):
  ∃S1 H,(h3.new h3.next o).set id (.loop B)=H∧H.next=h3.next+1∧H.at' h3.next=some o∧H.at' id=some (.loop B)∧But (fun j=>j=id) h3 H∧W k S1 H∧(∀p∈l,p.1<h3.next∧H.at' p.1=some p.2)∧
   (W k S1 h3∧(∀p∈l,p.1<h3.next∧h3.at' p.1=some p.2∧¬S1 p.1)∧∀i,S0 i↔((∃p∈l,i=p.1)∨S1 i)):=by
 obtain⟨S1,a1,a2,hS0⟩:=hw3;have hnx:((h3.new h3.next o).set id (.loop B)).next=h3.next+1:=by rw[ze,zD]
 have hb:But (fun j=>j=id) h3 ((h3.new h3.next o).set id (.loop B)):=⟨by omega,fun j hj hn=>by rw[zE hn,zF (by omega)]⟩;refine⟨S1,_,rfl,hnx,by rw[zE (by omega),zJ],zC _ _ _,hb,Lcl.round hW a1 (fun i hi=>(hS0 _).2 (.inr hi)) hn3 hb,fun p hp=> ?_,a1,a2,hS0⟩;obtain⟨b1,b2,b3⟩:=a2 p hp;exact⟨b1,by rw[hb.2 _ b1 fun e=>hn3 (by rw[←e];exact(hS0 _).2 (.inl ⟨p,hp,rfl⟩))];exact b2⟩
theorem Lp.openL0 (hW:Lcl W) (hw3:WL l W k S0 h3) (hid:id<h3.next) (hn3:¬S0 id) (B:LRec):
  ∃S1 H,h3.set id (.loop B)=H∧H.next=h3.next∧H.at' id=some (.loop B)∧But (fun j=>j=id) h3 H∧W k S1 H∧(∀p∈l,p.1<h3.next∧H.at' p.1=some p.2)∧
   (W k S1 h3∧(∀p∈l,p.1<h3.next∧h3.at' p.1=some p.2∧¬S1 p.1)∧∀i,S0 i↔((∃p∈l,i=p.1)∨S1 i)):=by
 obtain⟨S1,a1,a2,hS0⟩:=hw3;have hnx:(h3.set id (.loop B)).next=h3.next:=ze _ _ _;have hb:But (fun j=>j=id) h3 (h3.set id (.loop B)):=⟨by omega,fun j hj hn=>zE hn⟩;refine⟨S1,_,rfl,hnx,zC _ _ _,hb,Lcl.round hW a1 (fun i hi=>(hS0 _).2 (.inr hi)) hn3 hb,fun p hp=> ?_,a1,a2,hS0⟩;obtain⟨b1,b2,b3⟩:=a2 p hp;exact⟨b1,by rw[hb.2 _ b1 fun e=>hn3 (by rw[←e];exact(hS0 _).2 (.inl ⟨p,hp,rfl⟩))];exact b2⟩
end
theorem zOt {α β:Type} {l:List α} {f:α→List β} {a b:Nat} {x:α} (h:l[a]? =some x) (hb:b<(f x).length):(l.flatMap f)[yH l f a+b]? =(f x)[b]? :=by
 obtain⟨h1,rfl⟩:=List.getElem?_eq_some_iff.1 h;rw[zYp h1 hb,List.getElem?_eq_getElem hb]
theorem qm {α β:Type} {l:List α} {f:α→List β} {a:Nat} {x:α} (h:l[a]? =some x):yH l f (a+1)=yH l f a+(f x).length:=by
 obtain⟨h1,rfl⟩:=List.getElem?_eq_some_iff.1 h;exact zRh h1
theorem zYw {α β:Type} {l:List α} {f:α→List β} {a b:Nat} {x:α} (h:l[a]? =some x) (hb:b<(f x).length):yH l f a+b<(l.flatMap f).length:=by
 obtain⟨h1,rfl⟩:=List.getElem?_eq_some_iff.1 h;exact zjN h1 hb
theorem qI {α β:Type} {f:α→List β} {m:Nat} :∀ {l:List α},(∀x∈l,(f x).length≤m)→(l.flatMap f).length≤l.length*m
 | [],_=>by simp
 |x::l,h=>by
  have:=qI (f:=f) (l:=l) fun y hy=>h y (List.mem_cons_of_mem _ hy);have h2:=h x (by simp);rw[List.flatMap_cons,List.length_append,List.length_cons,Nat.succ_mul];omega
abbrev zXV (fs:List Fac) (i:Nat):List Nat:=fIx 0 (fun g=>g.comp==qH fs i) fs
abbrev zBx (fs:List Fac) (u:Nat):List Nat:=fIx 2 (fun g=>g.out==qX fs u) fs
abbrev zG6 (fs:List Fac) (al:Nat→Option Alt) (i:Nat):Nat:=yH (List.range fs.length) (zRr fs al) i
abbrev zLP (fs:List Fac) (i k:Nat):Nat:=yH (zXV fs i) (zRq fs i) k
section
variable {fs:List Fac} {al:Nat→Option Alt} {i k k2 u v:Nat}
theorem zbF (hi:i<fs.length) (ha:(al i).isSome=false):zG6 fs al (i+1)=zG6 fs al i:=by
 unfold zG6;rw[qm (x:=i) (by simp[hi])];simp[zRr,ha]
theorem zXW (hi:i<fs.length) (ha:(al i).isSome=true):zG6 fs al (i+1)=zG6 fs al i+zLP fs i (zXV fs i).length:=by
 unfold zG6 zLP;rw[qm (x:=i) (by simp[hi]),zAp];simp[zRr,ha]
theorem zU7 (hk:(zXV fs i)[k]? =some u):zLP fs i (k+1)=zLP fs i k+(zBx fs u).length:=by
 unfold zLP;rw[qm hk];simp[zRq]
theorem zXX (hi:i<fs.length) (ha:(al i).isSome=true) (hk:(zXV fs i)[k]? =some u) (hk2:(zBx fs u)[k2]? =some v):
  zG6 fs al i+(zLP fs i k+k2)<(zo fs al).length∧(zo fs al)[zG6 fs al i+(zLP fs i k+k2)]? =some (i,u,v):=by
 obtain⟨q2,_⟩:=List.getElem?_eq_some_iff.1 hk2;have hb:k2<(zRq fs i u).length:=by unfold zRq;rw[List.length_map];exact q2
 have hb1:=zYw (f:=zRq fs i) hk hb;have hI:zRr fs al i=(zXV fs i).flatMap (zRq fs i):=by unfold zRr;rw[if_pos ha]
 rw[←hI] at hb1;have hr:(List.range fs.length)[i]? =some i:=by simp[hi]
 refine⟨zYw (f:=zRr fs al) hr hb1,?_⟩;have h1:=zOt (f:=zRr fs al) hr hb1;rw[hI] at h1;have h2:=zOt (f:=zRq fs i) hk hb;show((List.range fs.length).flatMap (zRr fs al))[_]? =_;rw[h1,h2];unfold zRq;rw[List.getElem?_map,hk2];rfl
end
set_option maxHeartbeats 4000000 in
theorem zCC {c:Cat} {fs:List Fac} {al:Nat→Option Alt} {M:KM Int} {O:KV} {sc:List D} {m1 m2:Nat} (hs:Stt c fs al M O sc m1 m2)
  {id:Nat} {Y:Nat→(Nat→Prop)→Heap→Prop} (y:Yld Tryz.prog id (zo fs al).length (elT (zo fs al)) Y fun _ _=>False) (hH:∀k S h,Y k S h→StH M O m1 m2 h) {S:Nat→Prop} {w:Heap} (hY:Y 0 S w):
  zA Tryz.prog 262 [.yld id, .iptr [.iptr sc 0] 0] w fun _ h'=>∃S',(∀j,S' j→S j∨w.next≤j)∧But S w h'∧Y (zo fs al).length S' h':=by
 have hs0:=hs;obtain⟨⟨ca,cb,ce,cp,x,rfl,hc,hx,_⟩,sm,hlen,hok,hget,halt⟩:=hs;have hll:=zAi hx;refine zA.of_fn (g:=zJc) mix Tryz.func262 ze6 rfl rfl ?_;simp only[Tryz.f262,gJ]
 repeat' first|simp only[go_sem,zFm,zX, *]|apply bc<;>intro hc
 refine zG (fun i fr h'=>fr 1= .iptr [.iptr [ca,cb,ce,cp,x, .map m1, .map m2] 0] 0∧fr 2= .iptr [.yld id] 0∧fr 12=x∧fr 13= .int .i64 (fs.length:Int)∧fr 14= .int .i64 (i:Int)∧∃S',(∀j,S' j→S j∨w.next≤j)∧But S w h'∧Y (zG6 fs al i) S' h') fs.length (by omega) ?_ ?_ ?_
 ·have hst:∃S',(∀j,S' j→S j∨w.next≤j)∧But S w w∧Y (zG6 fs al 0) S' w:=⟨S,fun j hj=> .inl hj,But.refl S w,hY⟩;simp only[go_sem,zFm,true_and,and_true,Int.ofNat_zero];exact hst
 ·rintro i fr h1 hlt e1 ew ⟨f1,f2,f12,f13,f14,S',hS,hbut,hYi⟩;have a1:=yy hx hlt;have hm:fs[i]∈fs:=List.getElem_mem hlt;have hw:zO true 12 fs[i].cells 0=some (.agg fs[i].cells):=zB rfl (by omega);have hst:=zFD (hok _ hm);have hcp:qH fs i=fs[i].comp:=by simp[qH,hlt]
  generalize fs[i]=f at *
  clear hget halt hok;have hst2:∀o2,zQ Tryz.prog 3 (.ptr h1.next 0) (.int .i64 (i:Int)) ((h1.new h1.next (.row [.int .i64 0])).new (h1.next+1) o2)=some ((h1.new h1.next (.row [.int .i64 (i:Int)])).new (h1.next+1) o2):=fun o2=>by
   have:=zOR (P:=Tryz.prog) (t:=3) (H:=h1) (c:= .int .i64 0) (x:= .int .i64 (i:Int)) (o2:=o2) wP rfl rfl;simpa only[zD] using this
  repeat' first|simp only[go_sem,zFm,zD, *]|apply bc<;>intro hc
  obtain⟨G,hG,hGn,g1,g2,hE⟩:∃G:Heap,(h1.new h1.next (.row [.int .i64 (i:Int)])).new (h1.next+1) (.row f.cells)=G∧G.next=h1.next+2∧G.at' h1.next=some (.row [.int .i64 (i:Int)])∧G.at' (h1.next+1)=some (.row f.cells)∧Ext h1 G:=
   ⟨_,rfl,zb _ (by rw[zD];exact Nat.le_refl _) _,by rw[zF (by omega),zJ],zJ _ _ _,((Ext.refl h1).new (Nat.le_refl _) _).new (by omega) _⟩
  rw[hG];clear hG hst hst2 hll;have hYG:=y.ext hYi hE;have hHG:=hH _ _ _ hYG;have hlk:=zLO hs0 hHG.1.1 hlt true;have hbutG:But S w G:=hbut.trans (hE.but S) fun i hi=> .inl hi;refine zx Heap.emp [(0, .no,false),(4, .no,false),(1, .no,false),(2, .no,false),(3, .no,false),(5, .no,false),(6, .no,false),(7, .no,false),(8, .no,false),(9, .no,false),(10, .no,false)] (by kernel_rfl) (by kernel_rfl) (fun i ob e=>by cases e) ?_;cases hal:al i with
  |none=>
   rw[hal] at hlk;replace hlk:yQ Tryz.prog 148 (.map m1) (.int .i64 (i:Int)) true G=some (.tuple [.nilsl, .bool false]):=hlk;have hfin:∃S',(∀j,S' j→S j∨w.next≤j)∧But S w G∧Y (zG6 fs al (i+1)) S' G:=⟨S',hS,hbutG,by rw[zbF hlt (by rw[hal];rfl)];exact hYG⟩;clear hYG hHG hbutG hE hS hbut hYi hal
   repeat' first|simp only[go_sem,zFm,zX, *]|apply bc<;>intro hc
  |some a=>
   rw[hal] at hlk;replace hlk:yQ Tryz.prog 148 (.map m1) (.int .i64 (i:Int)) true G=some (.tuple [a.d, .bool true]):=hlk;obtain⟨q1,q2,_⟩:=zM (hs0.alt i a hal).sl;have hcf:=fun g=>zF0 [ca,cb,ce,cp,x, .map m1, .map m2] 0 (hf:= .fn (.func 263) [] [.ptr (h1.next+1) 0]) ⟨_,_,_,rfl⟩ g
   repeat' first|simp only[go_sem,zFm,zX,zDU, *]|apply bc<;>intro hc|(refine zA.mono (hcf _) ?_;rintro r h ⟨hq,rfl⟩)
   subst hq;generalize hL:LRec.mk _ _ _ _ _ _ _=L;have hpe:L.pending=none:=by rw[←hL]
   have hrd:L.st= .ready:=by rw[←hL]
   have hYl:Lcl fun k=>Y (zG6 fs al i+zLP fs i k):=⟨fun k=>y.here _,fun k=>y.loc _⟩;have hS3:∀j,S' j→j<h1.next:=fun j hj=>y.here _ _ _ hYi j hj;refine wQ (W:=WK h1.next (.row [.int .i64 (i:Int)]) (h1.next+1) (.row f.cells) fun k=>Y (zG6 fs al i+zLP fs i k)) (n:=(zXV fs i).length) (el:=elI (zXV fs i)) (S:=fun j=>j=h1.next∨j=h1.next+1∨S' j) hGn (WK.lcl hYl) hrd hpe ?_ (fun yl hY0=>zDm (sc:=[ca,cb,ce,cp,x, .map m1, .map m2]) rfl hx (by omega) hs0.ok yl (R:=fun j=>j=h1.next+1) ?_ (fun g hg h2 hr=> ?_) hY0) ?_ ?_
   ·exact WK.start (by rw[show zLP fs i 0=0 from zAe _ _];exact hYG) (by omega) (by omega) g1 g2 (fun e=>Nat.lt_irrefl _ (hS3 _ e)) (fun e=>by have:=hS3 _ e;omega)
   ·rintro j rfl;refine⟨by rw[zb _ (by omega)];omega, .inr ?_⟩;rintro k S2 h2 ⟨_,_,S0,hk,_⟩;rw[hk.st.1.2,zF (by omega),g2]
   ·exact(zfp f g (by rw[hr _ rfl,zF (by omega),g2])).mono fun r h3 e=>by rw[hcp];exact e
   ·intro k S0 h3 hk hid3 hl3 hw3 hn3;obtain⟨u,hu⟩:∃u,(zXV fs i)[k]? =some u:=⟨_,List.getElem?_eq_getElem hk⟩;have hul:u<fs.length:=by
     have:=(ww _ fs 0 u (List.mem_of_getElem? hu)).2;omega
    have hgu:(zXV fs i).getD k 0=u:=by rw[List.getD_eq_getElem?_getD,hu];rfl
    simp only[elI,hgu];obtain⟨S1,hY1,⟨lt1,lt2⟩,⟨at1,at2⟩,⟨n1,n2⟩,hS0⟩:=hw3;have hl3':=hl3;rw[←hL] at hl3';have hst7:zQ Tryz.prog 3 (.ptr h3.next 0) (.int .i64 (u:Int)) (h3.new h3.next (.row [.int .i64 0]))=some (h3.new h3.next (.row [.int .i64 (u:Int)])):=by
     rw[zV (zJ _ _ _) wP (by simp) rfl rfl,zCW];rfl
    clear hlk q1 q2 a1 hw hm hcf hcp hS hbut hYi hE hYG hHG hbutG;refine yT.round (g:=zJc) mix hl3' rfl (by kernel_rfl) (by kernel_rfl) (by kernel_rfl) ?_;simp only[go_sem,zFm,f1,f2,hst7];refine⟨by rw[zF (by omega)];exact hl3',?_⟩;generalize hB:LRec.mk .busy _ _ _ _ _ _=B;have hLB:({ B with st:= .ready,pending:=none } :LRec)=L:=by rw[←hB,←hL]
    obtain⟨H,hHe,hHn,b1,b3,b4,hYH,hbH⟩:∃H:Heap,(h3.new h3.next (.row [.int .i64 (u:Int)])).set (h1.next+2) (.loop B)=H∧H.next=h3.next+1∧H.at' h1.next=some (.row [.int .i64 (i:Int)])∧H.at' h3.next=some (.row [.int .i64 (u:Int)])∧H.at' (h1.next+2)=some (.loop B)∧Y (zG6 fs al i+zLP fs i k) S1 H∧But (fun j=>j=h1.next+2) h3 H:=by
     refine⟨_,rfl,by rw[ze,zD],by rw[zE (by omega),zF (by omega)];exact at1,by rw[zE (by omega),zJ],zC _ _ _,?_,⟨by rw[ze,zD];omega,fun j hj hn=>by rw[zE hn,zF (by omega)]⟩⟩;have hb:=fun j hj=>y.here _ _ _ hY1 j hj;refine y.loc _ _ _ _ hY1 (by rw[ze,zD];omega) fun j hj=> ?_;have:=hb j hj;rw[zE (fun e=>hn3 (by rw[←e];exact(hS0 _).2 (.inr (.inr hj)))),zF (by omega)]
    rw[hHe];clear hst7 hHe hB;have hcf:=fun g=>zF0 [ca,cb,ce,cp,x, .map m1, .map m2] 2 (hf:= .fn (.func 264) [] [.iptr [.iptr [ca,cb,ce,cp,x, .map m1, .map m2] 0] 0, .ptr h3.next 0]) ⟨_,_,_,rfl⟩ g;refine(hcf _).mono ?_;rintro r H2 ⟨hq,rfl⟩;subst hq
    repeat' first|simp only[go_sem,zFm,zDU, *]|apply bc<;>intro hc
    generalize hL2:LRec.mk .ready _ _ _ _ _ _=L2;have hpe2:L2.pending=none:=by rw[←hL2]
    have hrd2:L2.st= .ready:=by rw[←hL2]
    have hYl2:Lcl fun k2=>Y (zG6 fs al i+(zLP fs i k+k2)):=⟨fun k=>y.here _,fun k=>y.loc _⟩;have hS13:∀j,S1 j→j<h3.next:=fun j hj=>y.here _ _ _ hY1 j hj;have hid2:¬S1 (h1.next+2):=fun e=>hn3 ((hS0 _).2 (.inr (.inr e)))
    refine⟨⟨_,b4⟩,wQ (W:=WK h1.next (.row [.int .i64 (i:Int)]) h3.next (.row [.int .i64 (u:Int)]) fun k2=>Y (zG6 fs al i+(zLP fs i k+k2))) (n:=(zBx fs u).length) (el:=elI (zBx fs u)) (S:=fun j=>j=h1.next∨j=h3.next∨S1 j) hHn (WK.lcl hYl2) hrd2 hpe2 ?_ (fun yl hY0=>zDm (sc:=[ca,cb,ce,cp,x, .map m1, .map m2]) rfl hx (by omega) hs0.ok yl (R:=fun j=>j=h3.next) ?_ (fun g hg h2 hr=> ?_) hY0) ?_ ?_⟩
    ·exact WK.start hYH (by omega) (by omega) b1 b3 n1 (fun e=>Nat.lt_irrefl _ (hS13 _ e))
    ·rintro j rfl;refine⟨by rw[zb _ (by omega)];omega, .inr ?_⟩;rintro k S2 h2 ⟨_,_,S0,hk,_⟩;rw[hk.st.1.2,zF (by omega),b3]
    ·exact(zfq (sc:=[ca,cb,ce,cp,x, .map m1, .map m2]) rfl hx hul g (by rw[hr _ rfl,zF (by omega),b3])).mono fun r h3 e=>e
    ·intro k2 S3 h4 hk2 hid4 hl4 hw4 hn4;obtain⟨v,hv⟩:∃v,(zBx fs u)[k2]? =some v:=⟨_,List.getElem?_eq_getElem hk2⟩;have hgv:(zBx fs u).getD k2 0=v:=by rw[List.getD_eq_getElem?_getD,hv];rfl
     simp only[elI,hgv];obtain⟨S4,hY4,⟨lt3,lt4⟩,⟨at3,at4⟩,⟨n3,n4⟩,hS4⟩:=hw4;have hl4':=hl4;rw[←hL2] at hl4';obtain⟨tl,te⟩:=zXX (al:=al) hlt (by rw[hal];rfl) hu hv;have hge:(zo fs al).getD (zG6 fs al i+(zLP fs i k+k2)) (0,0,0)=(i,u,v):=by rw[List.getD_eq_getElem?_getD,te];rfl
     have hgo:=fun S h=>y.go (zG6 fs al i+(zLP fs i k+k2)) S h tl;simp only[elT,hge,zBw] at hgo;have hvb:yC Tryz.prog 270 [(0, .int .i64 (i:Int)),(1, .int .i64 (u:Int)),(2, .int .i64 (v:Int))]=some (.agg [.int .i64 (i:Int), .int .i64 (u:Int), .int .i64 (v:Int)]):=by simp[yC,zOD,zTB,qS,yX,D.notTuple,D.cells]
     refine yT.round (g:=zJc) mix hl4' rfl (by kernel_rfl) (by kernel_rfl) (by kernel_rfl) ?_;simp only[go_sem,zFm];refine⟨hl4',?_⟩;generalize hB2:LRec.mk .busy _ _ _ _ _ _=B2;have hLB2:({ B2 with st:= .ready,pending:=none } :LRec)=L2:=by rw[←hB2,←hL2]
     have i1:h1.next≠h3.next+1:=by omega
     have i2:h3.next≠h3.next+1:=by omega
     obtain⟨H4,hH4,a3,a4,a5,hbH2⟩:∃H4:Heap,h4.set (h3.next+1) (.loop B2)=H4∧H4.at' h1.next=some (.row [.int .i64 (i:Int)])∧H4.at' h3.next=some (.row [.int .i64 (u:Int)])∧H4.at' (h3.next+1)=some (.loop B2)∧But (fun j=>j=h3.next+1) h4 H4:=
      ⟨_,rfl,by rw[zE i1];exact at3,by rw[zE i2];exact at4,zC _ _ _,by rw[ze];exact Nat.le_refl _,fun j _ hj=>zE hj⟩
     rw[hH4];clear hB2 hH4;simp only[go_sem,zFm,hvb,a3,a4,f2];refine(hgo _ _ (hYl2.round hY4 (fun j hj=>(hS4 _).2 (.inr (.inr hj))) hn4 hbH2)).mono ?_;rintro r h5 ⟨S5,hs5,hb5,⟨rfl,hr⟩ | ⟨rfl,hr⟩⟩
     ·have hfin:∀fr,wB (LpK (h3.next+1) L2 (WK h1.next (.row [.int .i64 (i:Int)]) h3.next (.row [.int .i64 (u:Int)]) fun k2=>Y (zG6 fs al i+(zLP fs i k+k2))) k2 S3 h4) (h3.next+1) .normal fr h5:=fun fr=>Lp.call hYl2 hLB2 hid4 hn4 ⟨hY4,⟨lt3,lt4⟩,⟨at3,at4⟩,⟨n3,n4⟩,hS4⟩ a5 hbH2 hs5 hb5 hr;simp only[go_sem,zFm,vun];exact hfin _
     ·exact hr.elim
    ·intro S' h5 hs hb hw;obtain⟨S5,hs5,hb5,hw5⟩:=WK.stop b1 b3 (fun j hj=>by rw[hHn];exact hs j hj) hb hw;rw[←Nat.add_zero (zLP fs i k)] at hYH;have hw6:Y (zG6 fs al i+zLP fs i (k+1)) S5 h5:=by rw[zU7 hu];exact hw5
     have hfin:∀fr,wB (LpK (h1.next+2) L (WK h1.next (.row [.int .i64 (i:Int)]) (h1.next+1) (.row f.cells) fun k=>Y (zG6 fs al i+zLP fs i k)) k S0 h3) (h1.next+2) .normal fr h5:=fun fr=>Lp.call hYl hLB hid3 hn3 ⟨hY1,⟨lt1,lt2⟩,⟨at1,at2⟩,⟨n1,n2⟩,hS0⟩ b4 hbH hs5 hb5 hw6;simp only[go_sem,zFm];exact hfin _
   ·intro S2 h5 hs hb hw;obtain⟨S5,hs5,hb5,hw5⟩:=WK.stop g1 g2 (fun j hj=>by rw[hGn];exact hs j hj) hb hw;have hfin:∃S',(∀j,S' j→S j∨w.next≤j)∧But S w h5∧Y (zG6 fs al (i+1)) S' h5:=⟨S5,fun j hj=>by
     rcases hs5 j hj with q|q
     ·exact hS j q
     ·exact .inr (by have:=hbutG.1;omega),hbutG.trans hb5 hS,by rw[zXW hlt (by rw[hal];rfl)];exact hw5⟩
    clear hlk hYG hHG hbutG hE hS hbut hYi hal hs hb hw hs5 hb5 hw5 hcf hL
    repeat' first|simp only[go_sem,zFm, *]|apply bc<;>intro hc
 ·rintro fr h2 e1 ⟨f1,f2,f12,f13,f14,S',hS1,hS2,hS3⟩;have hfin:∃S',(∀j,S' j→S j∨w.next≤j)∧But S w h2∧Y (zo fs al).length S' h2:=⟨S',hS1,hS2,by rw[show(zo fs al).length=zG6 fs al fs.length from(by unfold zG6 zo;rw[←zAp,List.length_range])];exact hS3⟩
  clear hS1 hS2 hS3
  repeat' first|simp only[go_sem,zFm, *]|apply bc<;>intro hc
def zBh (fs:List Fac) (i:Nat):Int:=match fs[i]? with
 |some f=>f.way
 |none=>0
def zAH (fs:List Fac) (i:Nat):Int:=match fs[i]? with
 |some f=>f.rel
 |none=>0
def zRs (duty:Int) (q:List (List UInt8)→Bool) (l:Cla):Bool:=l.duty==duty&&q l.list
def zbG (c:Cat) (way rel duty:Int) (q:List (List UInt8)→Bool) (z:Trm):Bool:=(wV c z.a z.b way rel).any (zRs duty q)
def zNH (c:Cat) (ts:List Trm) (way rel duty:Int) (q:List (List UInt8)→Bool):Bool:=ts.any (zbG c way rel duty q)
theorem zU8 {duty:Int} {q:List (List UInt8)→Bool} :∀ {a b:List Cla},a.map Cla.key=b.map Cla.key→a.any (zRs duty q)=b.any (zRs duty q)
 | [],[],_=>rfl
 | [],_::_,h=>by cases h
 |_::_,[],h=>by cases h
 |x::a,y::b,h=>by
  simp only[List.map_cons,List.cons.injEq,Cla.key,Prod.mk.injEq] at h;obtain⟨⟨_,_,_,h1,h2⟩,h3⟩:=h;rw[List.any_cons,List.any_cons,zU8 h3,zRs,zRs,h1,h2]
theorem zfr (y:Cla) (h:Heap):zA Tryz.prog 202 [.agg y.cells] h fun r h'=>h'=h∧r= .bool true:=by
 refine zA.of_fn (g:=zTq) mix Tryz.func202 zia rfl rfl ?_;simp only[Tryz.f202,gJ]
 repeat' first|simp only[go_sem,ziZ, *]|apply bc<;>intro hc
set_option maxHeartbeats 4000000 in
theorem zbH {c:Cat} {fs:List Fac} {al:Nat→Option Alt} {M:KM Int} {O:KV} {sc:List D} {m1 m2:Nat} (hs:Stt c fs al M O sc m1 m2) {t:Tri} (t1:t.1<fs.length) (t2:t.2.1<fs.length) (t3:t.2.2<fs.length) {a:Alt} (hal:al t.1=some a) (duty:Int)
  {f:FuncId} {cap:List D} {q:List (List UInt8)→Bool} {R:Nat→Prop} {g:Heap} (hH:StH M O m1 m2 g) (hR:∀i,R i→i<g.next) (hq:∀y:Cla,y.Fine→∀h2:Heap,(∀i,R i→h2.at' i=g.at' i)→zA Tryz.prog f ([]++ [.agg y.cells]++cap) h2 fun r h3=>h3=h2∧r= .bool (q y.list)):
  zA Tryz.prog 201 [.iptr sc 0, .agg (zBw t), .int .i64 duty, .fn (.func f) [] cap] g fun r h'=>Ext g h'∧r= .bool (zNH c a.ts (zBh fs t.2.2) (zAH fs t.2.1) duty q):=by
 have hlk:=zLO hs hH.1.1 t1 false;rw[hal] at hlk;replace hlk:yQ Tryz.prog 148 (.map m1) (.int .i64 (t.1:Int)) false g=some a.d:=hlk;have hok:=hs.alt _ _ hal;have w1:zBh fs t.2.2=fs[t.2.2].way:=by simp[zBh,t3]
 have w2:zAH fs t.2.1=fs[t.2.1].rel:=by simp[zAH,t2]
 rw[w1,w2];clear w1 w2;obtain⟨⟨ca,cb,ce,cp,x,rfl,hc,hx,_⟩,sm,hlen,hfk,hget,halt⟩:=hs;have a2:=yy hx t2;have a3:=yy hx t3;have k2:fs[t.2.1].cells[3]? =some (.int .i64 fs[t.2.1].rel):=rfl;have k3:fs[t.2.2].cells[4]? =some (.int .i64 fs[t.2.2].way):=rfl;generalize fs[t.2.1]=f2 at *
 generalize fs[t.2.2]=f3 at *
 have hla:=ql hok.sl;have hal0:=hok.len;obtain⟨q1,q2,_⟩:=zM hok.sl;have hE:Ext g g:=Ext.refl g;obtain⟨t1',t2',t3'⟩:=t;simp only[zBw] at *
 clear hget halt hfk hal;refine zA.of_fn (g:=zPq) mix Tryz.func201 zeD rfl rfl ?_;simp only[Tryz.f201,gJ]
 repeat' first|simp only[go_sem,zGb, *]|apply bc<;>intro hc
 refine zx Heap.emp [(0, .no,false),(1, .no,false),(2, .no,false),(3, .no,false),(4, .no,false),(5, .no,false),(6, .no,false),(7, .no,false),(8, .no,false)] (by kernel_rfl) (by kernel_rfl) (fun i ob e=>by cases e) ?_
 repeat' first|simp only[go_sem,zGb,zX, *]|apply bc<;>intro hc
 refine zG (fun i fr h'=>fr 0= .iptr [ca,cb,ce,cp,x, .map m1, .map m2] 0∧fr 2= .int .i64 duty∧fr 3= .fn (.func f) [] cap∧fr 5= .iptr [.int .i64 (t1':Int), .int .i64 (t2':Int), .int .i64 (t3':Int)] 0∧fr 19=a.d∧fr 20= .int .i64 (a.ts.length:Int)∧fr 21= .int .i64 (i:Int)∧Ext g h'∧∀j (hj:j<a.ts.length),j<i→zbG c f3.way f2.rel duty q a.ts[j]=false) a.ts.length (by omega) ?_ ?_ ?_
 ·simp only[go_sem,zGb,true_and,and_true,Int.ofNat_zero];exact⟨hE,fun j hj h0=>by omega⟩
 ·rintro i fr h1 hlt e1 ew ⟨f0,f2',f3',f5,f19,f20,f21,hE1,hj⟩;have a1:=zBv hok.sl hlt;have hzv:zbG c f3.way f2.rel duty q a.ts[i]=(wV c a.ts[i].a a.ts[i].b f3.way f2.rel).any (zRs duty q):=rfl;have hzt:=fun e=>zH4 (p:=zbG c f3.way f2.rel duty q) hlt e;have hzn:=fun e=>yi (p:=zbG c f3.way f2.rel duty q) hlt hj e;generalize a.ts[i]=z at *
  have hst:zQ Tryz.prog 79 (.ptr h1.next 0) (.agg z.cells) (h1.new h1.next (.row [.str [], .str []]))=some (h1.new h1.next (.row z.cells)):=zU qz (by omega) rfl rfl rfl;have hcl:=fun g=>zMp hc sm z.a z.b f3.way f2.rel g;have hv2:zO true 2 z.cells 0=some (.agg z.cells):=zB rfl (by omega);have hv2':zO true 2 z.cells 0=some (.agg [.str z.a, .str z.b]):=hv2;have hE2:∀o,Ext g (h1.new h1.next o):=fun o=>hE1.new hE1.1 o;clear hj hE hlk
  repeat' first|simp only[go_sem,zGb, *]|apply bc<;>intro hc
  obtain⟨H,hH1,hrow,hEH⟩:∃H,h1.new h1.next (.row z.cells)=H∧H.at' h1.next=some (.row z.cells)∧Ext g H:=⟨_,rfl,zJ _ _ _,hE2 _⟩;rw[hH1];have hv4:zO true 4 [ca,cb,ce,cp,x, .map m1, .map m2] 0=some (.agg [ca,cb,ce,cp]):=by simp[zO]
  clear hst hE2 hH1 hv2;refine zx Heap.emp [(4, .no,false),(0, .no,false),(1, .no,false),(2, .no,false),(3, .no,false),(5, .no,false),(6, .no,false),(7, .no,false),(8, .no,false),(9, .no,false),(10, .no,false),(11, .no,false),(12, .no,false),(13, .no,false),(14, .no,false),(15, .no,false),(16, .no,false),(17, .no,false),(18, .no,false),(19, .no,false),(20, .no,false),(21, .no,false),(22, .no,false),(25, .no,false),(23, .no,false),(24, .no,false)] (by kernel_rfl) (by kernel_rfl) (fun i ob e=>by cases e) ?_
  repeat' first|simp only[go_sem,zGb,zX, *]|apply bc<;>intro hc
  refine(hcl _).mono ?_;rintro r H2 ⟨hq2,cs,hcs,hfine,hkey⟩;subst hq2;rw[←zU8 hkey] at hzv;have hlc:=zBn hcs;have hcl0:cs.length≤1048576:=by
   have:=congrArg List.length hkey;simp only[List.length_map] at this;have h2:(wV c z.a z.b f3.way f2.rel).length≤c.cs.length:=by
    unfold wV;split
    ·simp
    ·exact List.length_filter_le _ _
   have:=sm.cs.1;omega
  clear hkey hc hx hcl
  repeat' first|simp only[go_sem,zGb, *]|apply bc<;>intro hc
  refine zG (fun j fr h'=>fr 0= .iptr [ca,cb,ce,cp,x, .map m1, .map m2] 0∧fr 2= .int .i64 duty∧fr 3= .fn (.func f) [] cap∧fr 5= .iptr [.int .i64 (t1':Int), .int .i64 (t2':Int), .int .i64 (t3':Int)] 0∧fr 19=a.d∧fr 20= .int .i64 (a.ts.length:Int)∧fr 21= .int .i64 (i:Int)∧fr 48=r∧fr 49= .int .i64 (cs.length:Int)∧fr 50= .int .i64 (j:Int)∧Ext g h'∧∀k (hk:k<cs.length),k<j→zRs duty q cs[k]=false) cs.length (by omega) ?_ ?_ ?_
  ·simp only[go_sem,zGb,true_and,and_true,Int.ofNat_zero];exact⟨f0,f2',f3',f5,f19,f20,f21,hEH,fun j hj h0=>by omega⟩
  ·clear f0 f2' f3' f5 f19 f20 f21;rintro j fr2 h2 hltj e2 ew2 ⟨f0,f2',f3',f5,f19,f20,f21,f48,f49,f50,hE3,hj⟩;have b1:=zCf hcs hltj;have hyf:=hfine _ (List.getElem_mem hltj);have hyt:=fun e=>zH4 (p:=zRs duty q) hltj e;have hyn:=fun e=>yi (p:=zRs duty q) hltj hj e;have hyv:zRs duty q cs[j]=(cs[j].duty==duty&&q cs[j].list):=rfl;generalize cs[j]=y at *
   have hst2:zQ Tryz.prog 92 (.ptr h2.next 0) (.agg y.cells) (h2.new h2.next (.row [.str [], .int .i64 0, .int .i64 0, .int .i64 0, .nilsl]))=some (h2.new h2.next (.row y.cells)):=zU zEu (by omega) rfl rfl (by show(true&&(true&&(true&&(true&&(y.d.flat&&true)))))=true;rw[zBb hyf.1.isSl];rfl);have hvy:zO true 5 y.cells 0=some (.agg y.cells):=zB rfl (by omega);have ky:y.cells[3]? =some (.int .i64 y.duty):=rfl;have hEy:Ext g (h2.new h2.next (.row y.cells)):=hE3.new hE3.1 _;obtain⟨H3,hH3,hrow3,hE4⟩:∃H,h2.new h2.next (.row y.cells)=H∧H.at' h2.next=some (.row y.cells)∧Ext g H:=⟨_,rfl,zJ _ _ _,hEy⟩
   rw[hH3] at hst2;have hqy:=hq y hyf H3 fun i hi=>hE4.2 i (hR i hi);simp only[List.nil_append,List.cons_append] at hqy;clear hj hq hR hcs hfine hyf hH3 hE3 hEy hrow hEH hE1 a1 a2 a3 hH hv2' hv4;cases hd:(y.duty==duty) with
   |false=>
    have hn2:=hyn (by rw[hyv,hd];rfl);clear hyv hyt hyn
    repeat' first|simp only[go_sem,zGb, *]|apply bc<;>intro hc
    exact hn2
   |true=>
    cases hqq:q y.list with
    |false=>
     rw[hqq] at hqy;have hn2:=hyn (by rw[hyv,hd,hqq];rfl);clear hyv hyt hyn hqq
     repeat' first|simp only[go_sem,zGb, *]|apply bc<;>intro hc|(refine zA.mono hqy ?_;rintro r h ⟨rfl,rfl⟩)
     exact hn2
    |true=>
     rw[hqq] at hqy;have hn2:zNH c a.ts f3.way f2.rel duty q=true:=hzt (by rw[hzv];exact hyt (by rw[hyv,hd,hqq];rfl));clear hyv hyt hyn hzt hzv hzn hqq
     repeat' first|simp only[go_sem,zGb, *]|apply bc<;>intro hc|(refine zA.mono hqy ?_;rintro r h ⟨rfl,rfl⟩)
  ·clear f0 f2' f3' f5 f19 f20 f21;rintro fr2 h2 e2 ⟨f0,f2',f3',f5,f19,f20,f21,f48,f49,f50,hE3,hj⟩;have hn2:=hzn (by rw[hzv];exact zD6 (p:=zRs duty q) (fun i hi _=>hj i hi hi));clear hj hzn hzv hzt hq hR hcs hfine hrow hEH hE1 a1 a2 a3 hH hv2' hv4
   repeat' first|simp only[go_sem,zGb, *]|apply bc<;>intro hc
   exact hn2
 ·rintro fr h1 e1 ⟨f0,f2',f3',f5,f19,f20,f21,hE1,hj⟩;have hno:zNH c a.ts f3.way f2.rel duty q=false:=zD6 fun i hi _=>hj i hi hi;clear hj hE hlk
  repeat' first|simp only[go_sem,zGb, *]|apply bc<;>intro hc
theorem bs3 (a b c:Int) (nid:Nat) (h:Heap):zK Tryz.prog false nid 31 3 [(0, .int .i64 a),(1, .int .i64 b),(2, .int .i64 c)] h=some (.sl 1 (wU [a,b,c]) .full,h):=by
 simp[zK,yG,zAW,wP,D.notTuple,D.cells,zBC,qS,yX,yD,wU]
theorem bs2 (a b:Int) (nid:Nat) (h:Heap):zK Tryz.prog false nid 31 2 [(0, .int .i64 a),(1, .int .i64 b)] h=some (.sl 1 (wU [a,b]) .full,h):=by
 simp[zK,yG,zAW,wP,D.notTuple,D.cells,zBC,qS,yX,yD,wU]
theorem bs4 (a b c d:Int) (nid:Nat) (h:Heap):zK Tryz.prog false nid 31 4 [(0, .int .i64 a),(1, .int .i64 b),(2, .int .i64 c),(3, .int .i64 d)] h=some (.sl 1 (wU [a,b,c,d]) .full,h):=by
 simp[zK,yG,zAW,wP,D.notTuple,D.cells,zBC,qS,yX,yD,wU]
theorem bs5 (a b c d e:Int) (nid:Nat) (h:Heap):zK Tryz.prog false nid 31 5 [(0, .int .i64 a),(1, .int .i64 b),(2, .int .i64 c),(3, .int .i64 d),(4, .int .i64 e)] h=some (.sl 1 (wU [a,b,c,d,e]) .full,h):=by
 simp[zK,yG,zAW,wP,D.notTuple,D.cells,zBC,qS,yX,yD,wU]
theorem bs1 (a:Int) (nid:Nat) (h:Heap):zK Tryz.prog false nid 31 1 [(0, .int .i64 a)] h=some (.sl 1 (wU [a]) .full,h):=by
 simp[zK,yG,zAW,wP,D.notTuple,D.cells,zBC,qS,yX,yD,wU]
theorem zDV {fs:List Fac} {al:Nat→Option Alt} {t:Tri} (h:t∈zo fs al):t.1<fs.length∧t.2.1<fs.length∧t.2.2<fs.length∧∃a,al t.1=some a:=by
 unfold zo at h;obtain⟨i,hi,ht⟩:=List.mem_flatMap.1 h;unfold zRr at ht;split at ht
 ·rename_i ha;obtain⟨u,hu,ht⟩:=List.mem_flatMap.1 ht;unfold zRq at ht;obtain⟨v,hv,rfl⟩:=List.mem_map.1 ht;have h1:=(ww _ fs 0 u hu).2;have h2:=(ww _ fs 0 v hv).2;exact⟨List.mem_range.1 hi,by simpa using h1,by simpa using h2,Option.isSome_iff_exists.1 ha⟩
 ·cases ht
theorem zU9 (fs:List Fac) (al:Nat→Option Alt):(zo fs al).length≤fs.length*(fs.length*fs.length):=by
 unfold zo;refine Nat.le_trans (qI (m:=fs.length*fs.length) fun i _=> ?_) (by rw[List.length_range];exact Nat.le_refl _);unfold zRr;split
 ·refine Nat.le_trans (qI (m:=fs.length) fun u _=> ?_) (Nat.mul_le_mul_right _ (qG _ fs 0));unfold zRq;rw[List.length_map];exact qG _ fs 0
 ·simp
theorem zBI {fs:List Fac} {al:Nat→Option Alt} (h:fs.length≤16):(zo fs al).length≤4096:=
 Nat.le_trans (zU9 fs al) (Nat.le_trans (Nat.mul_le_mul h (Nat.mul_le_mul h h)) (by decide))
def yI {α:Type} (l:List α) (V:α→List (List Int)) (k:Nat):List (List Int):=(l.take k).flatMap V
theorem qw {α:Type} {l:List α} {V:α→List (List Int)} {k:Nat} {x:α} (h:l[k]? =some x):yI l V (k+1)=yI l V k++V x:=by
 obtain⟨h1,rfl⟩:=List.getElem?_eq_some_iff.1 h;unfold yI;rw[List.take_succ_eq_append_getElem h1,List.flatMap_append,List.flatMap_cons,List.flatMap_nil,List.append_nil]
theorem zAI {α:Type} (l:List α) (V:α→List (List Int)):yI l V l.length=l.flatMap V:=by unfold yI;rw[List.take_length]
theorem zCm {α:Type} {l:List α} {V:α→List (List Int)} {m:Nat} (h:∀x∈l,(V x).length≤m) (k:Nat):(yI l V k).length≤l.length*m:=
 Nat.le_trans (qI fun x hx=>h x (List.mem_of_mem_take hx)) (Nat.mul_le_mul_right _ (by rw[List.length_take];omega))
theorem zNI (t:Tri) (h:Heap) (id:Nat):zQ Tryz.prog 270 (.ptr id 0) (.agg (zBw t)) (h.new id (.row [.int .i64 0, .int .i64 0, .int .i64 0]))=some (h.new id (.row (zBw t))):=zU zZ3 (by omega) rfl rfl rfl
def zIT (al:Nat→Option Alt) (i:Nat):List Trm:=match al i with
 |some a=>a.ts
 |none=>[]
def wM (c:Cat) (fs:List Fac) (al:Nat→Option Alt) (t:Tri):List (List Int):=
 if zNH c (zIT al t.1) (zBh fs t.2.2) (zAH fs t.2.1) 5 (fun _=>true)=true then [[(t.1:Int),(t.2.1:Int),(t.2.2:Int)]] else []
theorem zRt {i:Nat} (h:i<1048576):fits .i64 (i:Int):=zZ (by omega) (by omega)
set_option maxHeartbeats 4000000 in
theorem zXY {c:Cat} {fs:List Fac} {al:Nat→Option Alt} {M:KM Int} {O:KV} {sc:List D} {m1 m2:Nat} (hs:Stt c fs al M O sc m1 m2) (hn:fs.length≤16)
  {ff:FuncId} {cap:List D} {Y:List (List Int)→(Nat→Prop)→Heap→Prop} (y:Fnd2 Tryz.prog 5 ff cap Y) {S:Nat→Prop} {w:Heap} (hY:Y [] S w) (hH:StH M O m1 m2 w) (n1:¬S m1) (n2:¬S m2):
  zA Tryz.prog 155 [.iptr sc 0, .fn (.func ff) [] cap] w fun _ h'=>∃S',(∀i,S' i→S i∨w.next≤i)∧But S w h'∧Y ((zo fs al).flatMap (wM c fs al)) S' h':=by
 have hs0:=hs;obtain⟨⟨ca,cb,ce,cp,x,rfl,hc,hx,_⟩,sm,hlen,hok,hget,halt⟩:=hs;have hct:=fun g=>zFN [ca,cb,ce,cp,x, .map m1, .map m2] g;refine zA.of_fn (g:=zMM) mix Tryz.func155 zde rfl rfl ?_;simp only[Tryz.f155,gJ]
 repeat' first|simp only[go_sem,zRN,zEQ, *]|apply bc<;>intro hc|(refine zA.mono (hct _) ?_;rintro r h ⟨hq,rfl⟩)
 subst hq;generalize hL:LRec.mk _ _ _ _ _ _ _=L;have hpe:L.pending=none:=by rw[←hL]
 have hrd:L.st= .ready:=by rw[←hL]
 have hYl:=y.lcl fun k=>yI (zo fs al) (wM c fs al) k;have h4:=zBI (al:=al) hn;refine wQ (W:=WK m1 (.map (kmD (D.int .i64) M)) m2 (.map (kvD O)) fun k=>Y (yI (zo fs al) (wM c fs al) k)) (n:=(zo fs al).length) (el:=elT (zo fs al)) (S:=fun j=>j=m1∨j=m2∨S j) rfl (WK.lcl hYl) hrd hpe ?_ (fun yl hY0=>zCC hs0 yl (fun k S h ⟨_,_,S0,hk,_⟩=>hk.st) hY0) ?_ ?_
 ·exact WK.start hY hH.2.1 hH.2.2 hH.1.1 hH.1.2 n1 n2
 ·intro k S0 h3 hk hid3 hl3 hw3 hn3;obtain⟨t,ht⟩:∃t,(zo fs al)[k]? =some t:=⟨_,List.getElem?_eq_getElem hk⟩;have hgt:(zo fs al).getD k (0,0,0)=t:=by rw[List.getD_eq_getElem?_getD,ht];rfl
  simp only[elT,hgt];obtain⟨p1,p2,p3,a,hal⟩:=zDV (List.mem_of_getElem? ht);have hl3':=hl3;rw[←hL] at hl3';have hst:=zNI t;refine yT.round (g:=zMM) mix hl3' rfl (by kernel_rfl) (by kernel_rfl) (by kernel_rfl) ?_;simp only[go_sem,zRN,hst];refine⟨by rw[zF (by omega)];exact hl3',?_⟩;generalize hB:LRec.mk .busy _ _ _ _ _ _=B;have hLB:({ B with st:= .ready,pending:=none } :LRec)=L:=by rw[←hB,←hL]
  obtain⟨S1,H,hHe,hHn,hrow,hHi,hbH,hwH,hHH,hw⟩:=Lp.open hYl hw3 hid3 hn3 (.row (zBw t)) B;rw[hHe];clear hst hHe hB;have hch:=zbH hs0 p1 p2 p3 hal 5 (q:=fun _=>true) (R:=fun _=>False) (f:=202) (cap:=[]) hHH (fun i hi=>hi.elim) (fun y hy h2 _=>zfr y h2);have hv3:zO true 3 (zBw t) 0=some (.agg (zBw t)):=zB rfl (by omega);have e1:(zBw t)[0]? =some (.int .i64 (t.1:Int)):=rfl;have e2:(zBw t)[1]? =some (.int .i64 (t.2.1:Int)):=rfl;have e3:(zBw t)[2]? =some (.int .i64 (t.2.2:Int)):=rfl;have hts:zIT al t.1=a.ts:=by simp[zIT,hal]
  have hfv:wM c fs al t=if zNH c a.ts (zBh fs t.2.2) (zAH fs t.2.1) 5 (fun _=>true)=true then [[(t.1:Int),(t.2.1:Int),(t.2.2:Int)]] else []:=by unfold wM;rw[hts]
  repeat' first|simp only[go_sem,zRN, *]|apply bc<;>intro hc
  refine hch.mono ?_;rintro r H2 ⟨hE2,rfl⟩;have hrow2:=(hE2.2 _ (by omega)).trans hrow;have hbH2:=hbH.ext1 hE2;have hHi2:=(hE2.2 _ (by omega)).trans hHi;have hwH2:=y.ext hwH hE2;cases hb:zNH c a.ts (zBh fs t.2.2) (zAH fs t.2.1) 5 (fun _=>true) with
  |false=>
   rw[hb,if_neg (by decide)] at hfv;have hw5:Y (yI (zo fs al) (wM c fs al) (k+1)) S1 H2:=by rw[qw ht,hfv,List.append_nil];exact hwH2
   have hfin:∀fr,wB (LpK h.next L (WK m1 (.map (kmD (D.int .i64) M)) m2 (.map (kvD O)) fun k=>Y (yI (zo fs al) (wM c fs al) k)) k S0 h3) h.next .normal fr H2:=fun fr=>Lp.call hYl hLB hid3 hn3 hw hHi2 hbH2 (fun j hj=> .inl hj) (But.refl S1 H2) hw5;simp only[go_sem,zRN];exact hfin _
  |true=>
   rw[hb,if_pos rfl] at hfv;have hul:(yI (zo fs al) (wM c fs al) k).length<16777216:=by
    have:=zCm (V:=wM c fs al) (l:=zo fs al) (m:=1) (fun t _=>by unfold wM;split<;>simp) k;omega
   have hgo:=y.go _ _ _ [(t.1:Int),(t.2.1:Int),(t.2.2:Int)] .full hwH2 hul (by simp) (by simp) (by
    intro n hn;simp only[List.mem_cons,List.not_mem_nil,or_false] at hn;rcases hn with rfl|rfl|rfl<;>exact zRt (by omega))
   simp only[List.nil_append,List.cons_append] at hgo;have hb3:=bs3 (t.1:Int) (t.2.1:Int) (t.2.2:Int);simp only[go_sem,zRN,hrow2,e1,e2,e3,hb3];refine hgo.mono ?_;rintro r h5 ⟨S5,hs5,hb5,hw5⟩;have hw6:Y (yI (zo fs al) (wM c fs al) (k+1)) S5 h5:=by rw[qw ht,hfv];exact hw5
   have hfin:∀fr,wB (LpK h.next L (WK m1 (.map (kmD (D.int .i64) M)) m2 (.map (kvD O)) fun k=>Y (yI (zo fs al) (wM c fs al) k)) k S0 h3) h.next .normal fr h5:=fun fr=>Lp.call hYl hLB hid3 hn3 hw hHi2 hbH2 hs5 hb5 hw6;exact hfin _
 ·intro S2 h5 hs hb hw;obtain⟨S5,hs5,hb5,hw5⟩:=WK.stop hH.1.1 hH.1.2 hs hb hw;rw[zAI] at hw5;simp only[go_sem,zRN];exact⟨S5,hs5,hb5,hw5⟩
def zIU (own:List UInt8) (l:List (List UInt8)):Bool:= !(l.any fun x=>x==own)
theorem zXZ {own:List UInt8} {y:Cla} (hy:y.Fine) {id:Nat} {h:Heap} (hi:h.at' id=some (.row [.str own])):zA Tryz.prog 203 [.agg y.cells, .ptr id 0] h fun r h'=>h'=h∧r= .bool (zIU own y.list):=by
 have hc:=zCZ hy.1.isSl hy.2 own;have k1:y.cells[4]? =some y.d:=rfl;obtain⟨q1,q2,_⟩:=zM hy.1.isSl;unfold zIU;refine zA.of_fn (g:=zP9) mix Tryz.func203 zen rfl rfl ?_;simp only[Tryz.f203,gJ]
 repeat' first|simp only[go_sem,zin, *]|apply bc<;>intro hc|(refine zA.mono (hc _) ?_;rintro r h ⟨rfl,rfl⟩)
def zAK (c:Cat) (fs:List Fac) (al:Nat→Option Alt) (O:KV) (t:Tri):List (List Int):=match zFr (qX fs t.2.1) O with
 |none=>[]
 |some own=>if zNH c (zIT al t.1) (zBh fs t.2.2) (zAH fs t.2.1) 4 (zIU own)=true then [[(t.1:Int),(t.2.1:Int),(t.2.2:Int)]] else []
set_option maxHeartbeats 4000000 in
theorem zbI {c:Cat} {fs:List Fac} {al:Nat→Option Alt} {M:KM Int} {O:KV} {sc:List D} {m1 m2:Nat} (hs:Stt c fs al M O sc m1 m2) (hn:fs.length≤16)
  {ff:FuncId} {cap:List D} {Y:List (List Int)→(Nat→Prop)→Heap→Prop} (y:Fnd2 Tryz.prog 5 ff cap Y) {S:Nat→Prop} {w:Heap} (hY:Y [] S w) (hH:StH M O m1 m2 w) (n1:¬S m1) (n2:¬S m2):
  zA Tryz.prog 156 [.iptr sc 0, .fn (.func ff) [] cap] w fun _ h'=>∃S',(∀i,S' i→S i∨w.next≤i)∧But S w h'∧Y ((zo fs al).flatMap (zAK c fs al O)) S' h':=by
 have hs0:=hs;obtain⟨⟨ca,cb,ce,cp,x,rfl,hc,hx,_⟩,sm,hlen,hok,hget,halt⟩:=hs;have hct:=fun g=>zFN [ca,cb,ce,cp,x, .map m1, .map m2] g;refine zA.of_fn (g:=zMO) mix Tryz.func156 zdu rfl rfl ?_;simp only[Tryz.f156,gJ]
 repeat' first|simp only[go_sem,zKl,zEQ, *]|apply bc<;>intro hc|(refine zA.mono (hct _) ?_;rintro r h ⟨hq,rfl⟩)
 subst hq;generalize hL:LRec.mk _ _ _ _ _ _ _=L;have hpe:L.pending=none:=by rw[←hL]
 have hrd:L.st= .ready:=by rw[←hL]
 have hYl:=y.lcl fun k=>yI (zo fs al) (zAK c fs al O) k;have h4:=zBI (al:=al) hn;refine wQ (W:=WK m1 (.map (kmD (D.int .i64) M)) m2 (.map (kvD O)) fun k=>Y (yI (zo fs al) (zAK c fs al O) k)) (n:=(zo fs al).length) (el:=elT (zo fs al)) (S:=fun j=>j=m1∨j=m2∨S j) rfl (WK.lcl hYl) hrd hpe ?_ (fun yl hY0=>zCC hs0 yl (fun k S h ⟨_,_,S0,hk,_⟩=>hk.st) hY0) ?_ ?_
 ·exact WK.start hY hH.2.1 hH.2.2 hH.1.1 hH.1.2 n1 n2
 ·intro k S0 h3 hk hid3 hl3 hw3 hn3;obtain⟨t,ht⟩:∃t,(zo fs al)[k]? =some t:=⟨_,List.getElem?_eq_getElem hk⟩;have hgt:(zo fs al).getD k (0,0,0)=t:=by rw[List.getD_eq_getElem?_getD,ht];rfl
  simp only[elT,hgt];obtain⟨p1,p2,p3,a,hal⟩:=zDV (List.mem_of_getElem? ht);have hl3':=hl3;rw[←hL] at hl3';have hst:=zNI t;refine yT.round (g:=zMO) mix hl3' rfl (by kernel_rfl) (by kernel_rfl) (by kernel_rfl) ?_;simp only[go_sem,zKl,hst];refine⟨by rw[zF (by omega)];exact hl3',?_⟩;generalize hB:LRec.mk .busy _ _ _ _ _ _=B;have hLB:({ B with st:= .ready,pending:=none } :LRec)=L:=by rw[←hB,←hL]
  obtain⟨S1,H,hHe,hHn,hrow,hHi,hbH,hwH,hHH,hw⟩:=Lp.open hYl hw3 hid3 hn3 (.row (zBw t)) B;rw[hHe];clear hst hHe hB;have hv3:zO true 3 (zBw t) 0=some (.agg (zBw t)):=zB rfl (by omega);have e1:(zBw t)[0]? =some (.int .i64 (t.1:Int)):=rfl;have e2:(zBw t)[1]? =some (.int .i64 (t.2.1:Int)):=rfl;have e3:(zBw t)[2]? =some (.int .i64 (t.2.2:Int)):=rfl;have hts:zIT al t.1=a.ts:=by simp[zIT,hal]
  have a2:=yy hx p2;have ho:qX fs t.2.1=fs[t.2.1].out:=by simp[qX,p2]
  have k2:fs[t.2.1].cells[2]? =some (.str fs[t.2.1].out):=rfl;rw[←ho] at k2;clear ho;obtain⟨h0,hleH,hleN,hlow⟩:=Heap.low H;obtain⟨n5,hn5⟩:∃n,H.next=n:=⟨_,rfl⟩;have hst5:∀s,zQ Tryz.prog 9 (.ptr n5 0) (.str s) (H.new n5 (.row [.str []]))=some (H.new n5 (.row [.str s])):=fun s=>by
   rw[zV (zJ _ _ _) zBg (by simp) rfl rfl,zCW];rfl
  have hrow0:=(hlow h3.next (by omega)).trans hrow;have hlk:=zU6 (by rw[hlow m2 hHH.2.2];exact hHH.1.2) (qX fs t.2.1) true;have h35:h3.next<n5:=by omega
  have hnew:∀o,∃G,H.new n5 o=G∧Ext H G∧G.at' n5=some o∧G.at' h3.next=some (.row (zBw t))∧n5<G.next∧But (fun j=>j=h.next) h3 G∧G.at' h.next=some (.loop B)∧Y (yI (zo fs al) (zAK c fs al O) k) S1 G∧StH M O m1 m2 G:=fun o=>by
   have hE:Ext H (H.new n5 o):=(Ext.refl H).new (by omega) _;exact⟨_,rfl,hE,zJ _ _ _,(hE.2 _ (by omega)).trans hrow,by rw[zb _ (by omega)];omega,hbH.ext1 hE,(hE.2 _ (by omega)).trans hHi,y.ext hwH hE,StH.ext hHH hE⟩
  rw[hn5] at hleN;have hfin:∀ {fr:Frm} {G h5:Heap} {S5:Nat→Prop},G.at' h.next=some (.loop B)→But (fun j=>j=h.next) h3 G→(∀j,S5 j→S1 j∨G.next≤j)→But S1 G h5→Y (yI (zo fs al) (zAK c fs al O) (k+1)) S5 h5→wB (LpK h.next L (WK m1 (.map (kmD (D.int .i64) M)) m2 (.map (kvD O)) fun k=>Y (yI (zo fs al) (zAK c fs al O) k)) k S0 h3) h.next .normal fr h5:=fun a1 a2 a3 a4 a5=>Lp.call hYl hLB hid3 hn3 hw a1 a2 a3 a4 a5;rw[qw ht] at hfin;clear hHn hHi hbH hwH hHH hrow hlow
  refine zx h0 [(0, .st,true),(4, .st,true),(1, .no,true),(2, .no,true),(3, .st,true),(5, .no,true),(6, .no,true),(7, .st,true),(8, .no,true),(9, .st,true),(10, .no,true),(11, .no,true),(12, .st,true),(13, .st,true),(14, .no,true),(15, .no,true),(16, .no,true),(17, .no,true),(18, .no,false),(19, .no,false)] (by kernel_rfl) (by kernel_rfl) hleH ?_;cases hov:zFr (qX fs t.2.1) O with
  |none=>
   rw[hov] at hlk;replace hlk:yQ Tryz.prog 149 (.map m2) (.str (qX fs t.2.1)) true h0=some (.tuple [.str [], .bool false]):=hlk;have hv0:zAK c fs al O t= []:=by unfold zAK;rw[hov]
   rw[hv0,List.append_nil] at hfin;obtain⟨G,hG,hEG,g1,g2,g3,g4,g5,g6,_⟩:=hnew (.row [.str []]);have hfn:=fun fr=>hfin (fr:=fr) g5 g4 (fun j hj=> .inl hj) (But.refl S1 G) g6;have hst6:=hst5 [];have hleG:=hleN (.row [.str []]);rw[hG] at hst6 hleG;clear hw hL hLB hs0 hY hH hw3 hl3' hl3 ht hnew hfin hov g1 g2 g3 g4 g5 g6 hEG
   repeat' first|simp only[go_sem,zKl,zX, *]|apply bc<;>intro hc
   refine zU5 _ hlk ?_
   repeat' first|simp only[go_sem,zKl,zX, *]|apply bc<;>intro hc
  |some own=>
   rw[hov] at hlk;replace hlk:yQ Tryz.prog 149 (.map m2) (.str (qX fs t.2.1)) true h0=some (.tuple [.str own, .bool true]):=hlk;have hv0:zAK c fs al O t=if zNH c a.ts (zBh fs t.2.2) (zAH fs t.2.1) 4 (zIU own)=true then [[(t.1:Int),(t.2.1:Int),(t.2.2:Int)]] else []:=by unfold zAK;rw[hov];simp only[hts]
   rw[hv0] at hfin;obtain⟨G,hG,hEG,g1,g2,g3,g4,g5,g6,g7⟩:=hnew (.row [.str own]);have hch:=zbH hs0 p1 p2 p3 hal 4 (q:=zIU own) (R:=fun j=>j=n5) (f:=203) (cap:=[.ptr n5 0]) g7 (fun i hi=>by rw[hi];exact g3) (fun z hz h2 hr=>zXZ hz (by rw[hr _ rfl,g1]));have hul:(yI (zo fs al) (zAK c fs al O) k).length<16777216:=by
    have:=zCm (V:=zAK c fs al O) (l:=zo fs al) (m:=1) (fun t _=>by
     unfold zAK;split
     ·simp
     ·split<;>simp) k
    omega
   have hb3:=bs3 (t.1:Int) (t.2.1:Int) (t.2.2:Int);have hgo:=fun S h hy=>y.go _ S h [(t.1:Int),(t.2.1:Int),(t.2.2:Int)] .full hy hul (by simp) (by simp) (by
    intro n hn;simp only[List.mem_cons,List.not_mem_nil,or_false] at hn;rcases hn with rfl|rfl|rfl<;>exact zRt (by omega))
   simp only[List.nil_append,List.cons_append] at hgo;clear hw hL hLB hY hH hw3 hl3' hl3 ht hnew hov hs0 hct
   repeat' first|simp only[go_sem,zKl,zX, *]|apply bc<;>intro hc
   refine zU5 _ hlk ?_
   repeat' first|simp only[go_sem,zKl,zX, *]|apply bc<;>intro hc
   refine hch.mono ?_;rintro r H2 ⟨hE2,rfl⟩;have hrow2:=(hE2.2 _ (by omega)).trans g2;have hbH2:=g4.ext1 hE2;have hHi2:=(hE2.2 _ (by omega)).trans g5;have hwH2:=y.ext g6 hE2;cases hb:zNH c a.ts (zBh fs t.2.2) (zAH fs t.2.1) 4 (zIU own) with
   |false=>
    rw[hb,if_neg (by decide),List.append_nil] at hfin;simp only[go_sem,zKl];exact hfin hHi2 hbH2 (fun j hj=> .inl hj) (But.refl S1 H2) hwH2
   |true=>
    rw[hb,if_pos rfl] at hfin;simp only[go_sem,zKl,hrow2,e1,e2,e3,hb3];refine(hgo _ _ hwH2).mono ?_;rintro r h5 ⟨S5,hs5,hb5,hw5⟩;exact hfin hHi2 hbH2 hs5 hb5 hw5
 ·intro S2 h5 hs hb hw;obtain⟨S5,hs5,hb5,hw5⟩:=WK.stop hH.1.1 hH.1.2 hs hb hw;rw[zAI] at hw5;simp only[go_sem,zKl];exact⟨S5,hs5,hb5,hw5⟩
theorem zbJ {fs:List Fac} {sc:List D} {x:D} (hsc:sc[4]? =some x) (hx:zf 12 (zFC fs) x) {t:Tri} (hu:t.1<fs.length) (g:Fac) {id:Nat} {h:Heap} (hi:h.at' id=some (.row (zBw t))):
  zA Tryz.prog 205 [.agg g.cells, .iptr [.iptr sc 0] 0, .ptr id 0] h fun r h'=>h'=h∧r= .bool (g.comp==qH fs t.1):=by
 have k1:fs[t.1].cells[1]? =some (.str fs[t.1].comp):=rfl;have k2:g.cells[1]? =some (.str g.comp):=rfl;have e1:(zBw t)[0]? =some (.int .i64 (t.1:Int)):=rfl;have ha:=yy hx hu;have ho:qH fs t.1=fs[t.1].comp:=by simp[qH,hu]
 refine zA.of_fn (g:=zTK) mix Tryz.func205 zhp rfl rfl ?_;simp only[Tryz.f205,gJ]
 repeat' first|simp only[go_sem,zdg, *]|apply bc<;>intro hc
 refine zx Heap.emp [(2, .no,false),(0, .no,false),(1, .no,false),(3, .no,false),(4, .no,false),(5, .no,false),(6, .no,false),(7, .no,false),(8, .no,false),(9, .no,false),(10, .no,false),(11, .no,false),(12, .no,false)] (by kernel_rfl) (by kernel_rfl) (fun i ob e=>by cases e) ?_
 repeat' first|simp only[go_sem,zdg,zX, *]|apply bc<;>intro hc
def zGS (fs:List Fac) (i:Nat):Int:=match fs[i]? with
 |some f=>f.duty
 |none=>0
def zLQ (fs:List Fac) (i:Nat):Bool:=match fs[i]? with
 |some f=>f.chg
 |none=>false
abbrev zER (fs:List Fac) (i:Nat):List Nat:=fIx 4 (fun g=>g.comp==qH fs i) fs
def zES (c:Cat) (fs:List Fac) (al:Nat→Option Alt) (t:Tri) (k:Nat):List (List Int):=
 if((!(zGS fs k==2)||zLQ fs t.2.1)&&zNH c (zIT al t.1) (zBh fs t.2.2) (zAH fs t.2.1) (zGS fs k) (fun _=>true))=true then [[(t.1:Int),(t.2.1:Int),(t.2.2:Int),(k:Int)]] else []
def zDt (c:Cat) (fs:List Fac) (al:Nat→Option Alt) (t:Tri):List (List Int):=(zER fs t.1).flatMap (zES c fs al t)
theorem zNJ (c:Cat) (fs:List Fac) (al:Nat→Option Alt) (t:Tri) (k:Nat):(zES c fs al t k).length≤1:=by unfold zES;split<;>simp
theorem zNK (c:Cat) {fs:List Fac} (hn:fs.length≤16) (al:Nat→Option Alt) (t:Tri):(zDt c fs al t).length≤16:=by
 have h1:=qI (m:=1) (l:=zER fs t.1) fun k _=>zNJ c fs al t k;have h2:(zER fs t.1).length≤fs.length:=qG _ fs 0;unfold zDt;omega
set_option maxHeartbeats 4000000 in
theorem zfs {c:Cat} {fs:List Fac} {al:Nat→Option Alt} {M:KM Int} {O:KV} {sc:List D} {m1 m2:Nat} (hs:Stt c fs al M O sc m1 m2) (hn:fs.length≤16)
  {ff:FuncId} {cap:List D} {Y:List (List Int)→(Nat→Prop)→Heap→Prop} (y:Fnd2 Tryz.prog 5 ff cap Y) {S:Nat→Prop} {w:Heap} (hY:Y [] S w) (hH:StH M O m1 m2 w) (n1:¬S m1) (n2:¬S m2):
  zA Tryz.prog 157 [.iptr sc 0, .fn (.func ff) [] cap] w fun _ h'=>∃S',(∀i,S' i→S i∨w.next≤i)∧But S w h'∧Y ((zo fs al).flatMap (zDt c fs al)) S' h':=by
 have hs0:=hs;obtain⟨⟨ca,cb,ce,cp,x,rfl,hc,hx,_⟩,sm,hlen,hok,hget,halt⟩:=hs;have hct:=fun g=>zFN [ca,cb,ce,cp,x, .map m1, .map m2] g;refine zA.of_fn (g:=zJZ) mix Tryz.func157 zd9 rfl rfl ?_;simp only[Tryz.f157,gJ]
 repeat' first|simp only[go_sem,zHn,zEQ, *]|apply bc<;>intro hc|(refine zA.mono (hct _) ?_;rintro r h ⟨hq,rfl⟩)
 subst hq;generalize hL:LRec.mk _ _ _ _ _ _ _=L;have hpe:L.pending=none:=by rw[←hL]
 have hrd:L.st= .ready:=by rw[←hL]
 have hYl:=y.lcl fun k=>yI (zo fs al) (zDt c fs al) k;have h4:=zBI (al:=al) hn;refine wQ (W:=WK m1 (.map (kmD (D.int .i64) M)) m2 (.map (kvD O)) fun k=>Y (yI (zo fs al) (zDt c fs al) k)) (n:=(zo fs al).length) (el:=elT (zo fs al)) (S:=fun j=>j=m1∨j=m2∨S j) rfl (WK.lcl hYl) hrd hpe ?_ (fun yl hY0=>zCC hs0 yl (fun k S h ⟨_,_,S0,hk,_⟩=>hk.st) hY0) ?_ ?_
 ·exact WK.start hY hH.2.1 hH.2.2 hH.1.1 hH.1.2 n1 n2
 ·intro k S0 h3 hk hid3 hl3 hw3 hn3;obtain⟨t,ht⟩:∃t,(zo fs al)[k]? =some t:=⟨_,List.getElem?_eq_getElem hk⟩;have hgt:(zo fs al).getD k (0,0,0)=t:=by rw[List.getD_eq_getElem?_getD,ht];rfl
  simp only[elT,hgt];obtain⟨p1,p2,p3,a,hal⟩:=zDV (List.mem_of_getElem? ht);have hl3':=hl3;rw[←hL] at hl3';have hst:=zNI t;refine yT.round (g:=zJZ) mix hl3' rfl (by kernel_rfl) (by kernel_rfl) (by kernel_rfl) ?_;simp only[go_sem,zHn,hst];refine⟨by rw[zF (by omega)];exact hl3',?_⟩;generalize hB:LRec.mk .busy _ _ _ _ _ _=B;have hLB:({ B with st:= .ready,pending:=none } :LRec)=L:=by rw[←hB,←hL]
  obtain⟨S1,H,hHe,hHn,hrow,hHi,hbH,hwH,hHH,hw⟩:=Lp.open hYl hw3 hid3 hn3 (.row (zBw t)) B;rw[hHe];clear hst hHe hB;have hv3:zO true 3 (zBw t) 0=some (.agg (zBw t)):=zB rfl (by omega);have e1:(zBw t)[0]? =some (.int .i64 (t.1:Int)):=rfl;have e2:(zBw t)[1]? =some (.int .i64 (t.2.1:Int)):=rfl;have e3:(zBw t)[2]? =some (.int .i64 (t.2.2:Int)):=rfl;have hts:zIT al t.1=a.ts:=by simp[zIT,hal]
  have hS13:∀j,S1 j→j<h3.next:=fun j hj=>y.here _ _ _ hw.1 j hj;have hcf:=fun g=>zF0 [ca,cb,ce,cp,x, .map m1, .map m2] 4 (hf:= .fn (.func 205) [] [.iptr [.iptr [ca,cb,ce,cp,x, .map m1, .map m2] 0] 0, .ptr h3.next 0]) ⟨_,_,_,rfl⟩ g;refine(hcf _).mono ?_;rintro r H2 ⟨hq,rfl⟩;subst hq;simp only[go_sem,zHn,zDU,hHn];generalize hL2:LRec.mk .ready _ _ _ _ _ _=L2;have hpe2:L2.pending=none:=by rw[←hL2]
  have hrd2:L2.st= .ready:=by rw[←hL2]
  have hYl2:=y.lcl fun k2=>yI (zo fs al) (zDt c fs al) k++yI (zER fs t.1) (zES c fs al t) k2;have hm1:¬S1 m1∧¬S1 m2:=hw.2.2.2.1;obtain⟨l,hl⟩:∃l:List (Nat×Obj),l= [(m1, .map (kmD (D.int .i64) M)),(m2, .map (kvD O)),(h3.next, .row (zBw t))]:=⟨_,rfl⟩;have hst0:∀p∈l,p.1<H2.next∧H2.at' p.1=some p.2∧¬S1 p.1:=by
   rw[hl];intro p hp;simp only[List.mem_cons,List.not_mem_nil,or_false] at hp;rcases hp with rfl|rfl|rfl
   ·exact⟨hHH.2.1,hHH.1.1,hm1.1⟩
   ·exact⟨hHH.2.2,hHH.1.2,hm1.2⟩
   ·exact⟨by rw[hHn];omega,hrow,fun e=>Nat.lt_irrefl _ (hS13 _ e)⟩
  have hget3:∀ {h:Heap},(∀p∈l,p.1<h.next∧h.at' p.1=some p.2)→StH M O m1 m2 h∧h3.next<h.next∧h.at' h3.next=some (.row (zBw t)):=by
   rw[hl];intro h hp;have q1:=hp (m1, .map (kmD (D.int .i64) M)) (by simp);have q2:=hp (m2, .map (kvD O)) (by simp);have q3:=hp (h3.next, .row (zBw t)) (by simp);exact⟨⟨⟨q1.2,q2.2⟩,q1.1,q2.1⟩,q3⟩
  clear hl;refine⟨⟨_,hHi⟩,wQ (W:=WL l fun k2=>Y (yI (zo fs al) (zDt c fs al) k++yI (zER fs t.1) (zES c fs al t) k2)) (n:=(zER fs t.1).length) (el:=elI (zER fs t.1)) (S:=fun j=>(∃p∈l,j=p.1)∨S1 j) hHn (WL.lcl hYl2) hrd2 hpe2 ?_ (fun yl hY0=>zDm (sc:=[ca,cb,ce,cp,x, .map m1, .map m2]) rfl hx (by omega) hs0.ok yl (R:=fun j=>j=h3.next) ?_ (fun g hg h2 hr=> ?_) hY0) ?_ ?_⟩
  ·exact WL.start (by rw[show yI (zER fs t.1) (zES c fs al t) 0= [] from rfl,List.append_nil];exact hwH) hst0
  ·rintro j rfl;refine⟨by rw[zb _ (by omega)];omega, .inr ?_⟩;rintro k S2 h2 ⟨_,_,S0,hk,_⟩;rw[(hget3 hk.st).2.2,zF (by omega),hrow]
  ·exact(zbJ (sc:=[ca,cb,ce,cp,x, .map m1, .map m2]) rfl hx p1 g (by rw[hr _ rfl,zF (by omega),hrow])).mono fun r h3 e=>e
  ·intro k2 S3 h5 hk2 hid4 hl4 hw4 hn4;obtain⟨v,hv⟩:∃v,(zER fs t.1)[k2]? =some v:=⟨_,List.getElem?_eq_getElem hk2⟩;have hgv:(zER fs t.1).getD k2 0=v:=by rw[List.getD_eq_getElem?_getD,hv];rfl
   have hvl:v<fs.length:=by
    have:=(ww _ fs 0 v (List.mem_of_getElem? hv)).2;omega
   simp only[elI,hgv];have hl4':=hl4;rw[←hL2] at hl4';refine yT.round (g:=zJZ) mix hl4' rfl (by kernel_rfl) (by kernel_rfl) (by kernel_rfl) ?_;simp only[go_sem,zHn];refine⟨hl4',?_⟩;generalize hB2:LRec.mk .busy _ _ _ _ _ _=B2;have hLB2:({ B2 with st:= .ready,pending:=none } :LRec)=L2:=by rw[←hB2,←hL2]
   obtain⟨S4,H4,hHe4,hHn4,hHi4,hbH4,hwH4,hHH4,hw5⟩:=Lp.openL0 hYl2 hw4 hid4 hn4 B2;rw[hHe4];obtain⟨g1,g2,g3⟩:=hget3 (h:=H4) fun p hp=>⟨by rw[hHn4];exact(hHH4 p hp).1,(hHH4 p hp).2⟩
   have hfin:∀ {fr:Frm} {G h7:Heap} {S5:Nat→Prop},G.at' (h3.next+1)=some (.loop B2)→But (fun j=>j=h3.next+1) h5 G→(∀j,S5 j→S4 j∨G.next≤j)→But S4 G h7→Y (yI (zo fs al) (zDt c fs al) k++yI (zER fs t.1) (zES c fs al t) (k2+1)) S5 h7→wB (LpK (h3.next+1) L2 (WL l fun k2=>Y (yI (zo fs al) (zDt c fs al) k++yI (zER fs t.1) (zES c fs al t) k2)) k2 S3 h5) (h3.next+1) .normal fr h7:=fun a1 a2 a3 a4 a5=>Lp.callL hYl2 hLB2 hid4 hn4 hw5 a1 a2 a3 a4 a5;rw[qw hv] at hfin;have b1:=yy hx hvl;have b2:=yy hx p2;have k5:fs[v].cells[5]? =some (.int .i64 fs[v].duty):=rfl
   have k6:fs[t.2.1].cells[6]? =some (.bool fs[t.2.1].chg):=rfl;have hd:zGS fs v=fs[v].duty:=by simp[zGS,hvl]
   have hcg:zLQ fs t.2.1=fs[t.2.1].chg:=by simp[zLQ,p2]
   have hkv:zES c fs al t v=if((!(fs[v].duty==2)||fs[t.2.1].chg)&&zNH c a.ts (zBh fs t.2.2) (zAH fs t.2.1) fs[v].duty (fun _=>true))=true then [[(t.1:Int),(t.2.1:Int),(t.2.2:Int),(v:Int)]] else []:=by unfold zES;rw[hd,hcg,hts]
   have hch:=zbH hs0 p1 p2 p3 hal fs[v].duty (q:=fun _=>true) (R:=fun _=>False) (f:=202) (cap:=[]) g1 (fun i hi=>hi.elim) (fun y hy h2 _=>zfr y h2);rw[hkv] at hfin;have hul:(yI (zo fs al) (zDt c fs al) k++yI (zER fs t.1) (zES c fs al t) k2).length<16777216:=by
    have q1:=zCm (V:=zDt c fs al) (l:=zo fs al) (m:=16) (fun t _=>zNK c hn al t) k;have q2:=zCm (V:=zES c fs al t) (l:=zER fs t.1) (m:=1) (fun k _=>zNJ c fs al t k) k2;have q3:(zER fs t.1).length≤fs.length:=qG _ fs 0;rw[List.length_append];omega
   have hgo:=fun S h hy=>y.go _ S h [(t.1:Int),(t.2.1:Int),(t.2.2:Int),(v:Int)] .full hy hul (by simp) (by simp) (by
    intro n hn;simp only[List.mem_cons,List.not_mem_nil,or_false] at hn;rcases hn with rfl|rfl|rfl|rfl<;>exact zRt (by omega))
   simp only[List.nil_append,List.cons_append] at hgo;have hb4:=bs4 (t.1:Int) (t.2.1:Int) (t.2.2:Int) (v:Int);clear hd hcg hkv hul;generalize fs[v]=fv at *
   generalize fs[t.2.1]=fu at *
   clear hL hLB hL2 hLB2 hs0 hY hH hw3 hl3' hl3 ht hct hcf hget hok hget3 hst0 hl4 hl4' hw4 hw5 hHH4 hHe4 hv hwH hHH hbH
   repeat' first|simp only[go_sem,zHn,zX, *]|apply bc<;>intro hc
   refine zS (by kernel_rfl) ?_;cases h2:(fv.duty==2)<;>cases hcg:fu.chg
   case true.false=>
    rw[h2,hcg,if_neg (by simp),List.append_nil] at hfin;have hfn:=fun fr=>hfin (fr:=fr) hHi4 hbH4 (fun j hj=> .inl hj) (But.refl S4 H4) hwH4;clear hfin hgo hch
    repeat' first|simp only[go_sem,zHn,zX, *]|apply bc<;>intro hc
   all_goals
    rw[h2,hcg] at hfin
    repeat' first|simp only[go_sem,zHn,zX, *]|apply bc<;>intro hc
    refine hch.mono ?_;rintro r H5 ⟨hE5,rfl⟩;have hrow5:=(hE5.2 _ g2).trans g3;have hbH5:=hbH4.ext1 hE5;have hHi5:=(hE5.2 _ (by rw[hHn4];exact hid4)).trans hHi4;have hwH5:=y.ext hwH4 hE5;cases hb:zNH c a.ts (zBh fs t.2.2) (zAH fs t.2.1) fv.duty (fun _=>true) with
    |false=>
     rw[hb,if_neg (by decide),List.append_nil] at hfin;have hfn:=fun fr=>hfin (fr:=fr) hHi5 hbH5 (fun j hj=> .inl hj) (But.refl S4 H5) hwH5;clear hfin hgo hch
     repeat' first|simp only[go_sem,zHn, *]|apply bc<;>intro hc
    |true=>
     rw[hb,if_pos (by decide)] at hfin;simp only[go_sem,zHn,hrow5,e1,e2,e3,hb4];refine(hgo _ _ hwH5).mono ?_;rintro r h7 ⟨S5,hs5,hb5,hw5⟩;rw[List.append_assoc] at hw5;exact hfin hHi5 hbH5 hs5 hb5 hw5
  ·intro S' h5 hs hb hw5;obtain⟨S5,hs5,hb5,hw6⟩:=WL.stop (fun p hp=>(hst0 p hp).2.1) (fun j hj=>by rw[hHn];exact hs j hj) hb hw5;rw[zAI] at hw6;have hw7:Y (yI (zo fs al) (zDt c fs al) (k+1)) S5 h5:=by rw[qw ht];exact hw6
   have hfin:∀fr,wB (LpK h.next L (WK m1 (.map (kmD (D.int .i64) M)) m2 (.map (kvD O)) fun k=>Y (yI (zo fs al) (zDt c fs al) k)) k S0 h3) h.next .normal fr h5:=fun fr=>Lp.call hYl hLB hid3 hn3 hw hHi hbH hs5 hb5 hw7;simp only[go_sem,zHn];exact hfin _
 ·intro S2 h5 hs hb hw;obtain⟨S5,hs5,hb5,hw5⟩:=WK.stop hH.1.1 hH.1.2 hs hb hw;rw[zAI] at hw5;simp only[go_sem,zHn];exact⟨S5,hs5,hb5,hw5⟩
theorem zft (x y:Apt) (c:Bool):zCz Tryz.prog .eql 135 c (.agg [.str x.a, .str x.b]) (.agg [.str y.a, .str y.b])=some (.bool (x.a==y.a&&x.b==y.b)):=by
 have he:eqT Tryz.prog 135=some [.s, .s]:=by kernel_rfl
 simp only[zCz,he,zQx,eqK,Option.map_some,Bool.and_true,zAJ]
theorem zXa {l:List Apt} {d:D} (hd:zf 2 (zW1 l) d) (hl:l.length≤1048576) (n:Apt) (g:Heap):
  zA Tryz.prog 341 [d, .agg [.str n.a, .str n.b]] g fun r h'=>h'=g∧r= .int .i64 (zLi (fun x:Apt=>n.a==x.a&&n.b==x.b) l):=by
 have hlen:=zE8 hd;have hv2:∀a b:D,zO true 2 [a,b] 0=some (.agg [a,b]):=fun a b=>zB rfl (by omega);have heq:=zft n;obtain⟨p,hp⟩:∃p:Apt→Bool,(fun x:Apt=>n.a==x.a&&n.b==x.b)=p:=⟨_,rfl⟩;have hpe:∀x,(n.a==x.a&&n.b==x.b)=p x:=fun x=>by rw[←hp]
 rw[hp];clear hp;refine zA.of_fn (g:=zQH) mix Tryz.func341 ze9 rfl rfl ?_;simp only[Tryz.f341,gJ]
 repeat' first|simp only[go_sem,zOL, *]|apply bc<;>intro hc
 refine zG (fun i fr h=>fr 0=d∧fr 3= .iptr [.str n.a, .str n.b] 0∧fr 7= .int .i64 (l.length:Int)∧fr 8= .int .i64 (i:Int)∧h=g∧∀j (hj:j<l.length),j<i→p l[j]=false) l.length (by omega) ?_ ?_ ?_
 ·simp only[go_sem,zOL,true_and,and_true,Int.ofNat_zero];exact fun j hj h0=>absurd h0 (Nat.not_lt_zero _)
 ·rintro i fr h hlt e1 ew ⟨f0,f3,f7,f8,rfl,hj⟩;have a1:=zFt hd hlt;simp only[Apt.cells] at a1;have hq:=heq l[i];rw[hpe] at hq;cases hb:p l[i] with
  |true=>
   have hx:=zCd (p:=p) hlt hj hb;rw[hb] at hq;clear hj hd hpe heq
   repeat' first|simp only[go_sem,zOL, *]|apply bc<;>intro hc
   refine zS (by kernel_rfl) ?_
   repeat' first|simp only[go_sem,zOL, *]|apply bc<;>intro hc
  |false=>
   have hn:=yi (p:=p) hlt hj hb;rw[hb] at hq;clear hj hd hpe heq
   repeat' first|simp only[go_sem,zOL, *]|apply bc<;>intro hc
   refine zS (by kernel_rfl) ?_
   repeat' first|simp only[go_sem,zOL, *]|apply bc<;>intro hc
   exact hn
 ·rintro fr h e1 ⟨f0,f3,f7,f8,rfl,hj⟩;have hx:=zCe (p:=p) fun j hj'=>hj j hj' hj';clear hj hd hpe heq
  repeat' first|simp only[go_sem,zOL, *]|apply bc<;>intro hc
theorem zOu {l:List Apt} {d:D} (hd:zf 2 (zW1 l) d) (hl:l.length≤1048576) (n:Apt) (g:Heap):
  zA Tryz.prog 317 [d, .agg [.str n.a, .str n.b]] g fun r h'=>h'=g∧r= .bool (l.any fun x:Apt=>n.a==x.a&&n.b==x.b):=by
 have hix:=zXa hd hl n;have hv2:∀a b:D,zO true 2 [a,b] 0=some (.agg [a,b]):=fun a b=>zB rfl (by omega);have hge:=zDG (l:=l) (p:=fun x:Apt=>n.a==x.a&&n.b==x.b);refine zA.of_fn (g:=zQG) mix Tryz.func317 ze8 rfl rfl ?_;simp only[Tryz.f317,gJ]
 repeat' first|simp only[go_sem,zi7, *]|apply bc<;>intro hc|(refine zA.mono (hix _) ?_;rintro r h ⟨rfl,rfl⟩)
def zjT (a b:List UInt8):Apt:=if(!(zIi a b||a==b))=true then⟨b,a⟩ else⟨a,b⟩
def zED (c:Cat) (a b:List UInt8):Bool:=(wb c==0)&&c.ps.any fun x=>(zjT a b).a==x.a&&(zjT a b).b==x.b
theorem zI1 {c:Cat} {d:D} (hc:qW c d) (hs:c.Sm) (x y:List UInt8) (g:Heap):zA Tryz.prog 266 [d, .str x, .str y] g fun r h'=>h'=g∧r= .bool (zED c x y):=by
 have hck:=zDh hc hs;obtain⟨a,b,e,p,rfl,ha,hb,he,hp⟩:=hc;have hv4:∀a b c e:D,zO true 4 [a,b,c,e] 0=some (.agg [a,b,c,e]):=fun a b c e=>zB rfl (by omega);have hbl:∀u v:List UInt8,yC Tryz.prog 135 [(0, .str u),(1, .str v)]=some (.agg [.str u, .str v]):=fun u v=>by simp[yC,zN9,zS7,qS,D.notTuple,D.cells,yX]
 have hcon:=fun n=>zOu hp hs.ps n;obtain⟨R,hR⟩:∃R,zED c x y=R:=⟨_,rfl⟩;rw[hR];unfold zED zjT at hR;refine zA.of_fn (g:=zP2) mix Tryz.func266 zea rfl rfl ?_;simp only[Tryz.f266,gJ];cases q:(zIi x y||x==y) with
 |true=>
  rw[if_neg (by rw[q];decide)] at hR;have h1:=hcon ⟨x,y⟩;subst hR;clear hcon
  repeat' first|simp only[go_sem,zeZ, *]|apply bc<;>intro hc|(refine zA.mono (hck _) ?_;rintro r h ⟨rfl,rfl⟩)|(refine zA.mono (h1 _) ?_;rintro r h ⟨rfl,rfl⟩)
 |false=>
  rw[if_pos (by rw[q];rfl)] at hR;have h1:=hcon ⟨y,x⟩;subst hR;clear hcon
  repeat' first|simp only[go_sem,zeZ, *]|apply bc<;>intro hc|(refine zA.mono (hck _) ?_;rintro r h ⟨rfl,rfl⟩)|(refine zA.mono (h1 _) ?_;rintro r h ⟨rfl,rfl⟩)
def zfu (c:Cat) (b:List Trm) (x:Trm):Bool:=b.any fun y=>zED c x.a y.a
def zbK (c:Cat) (a b:List Trm):Bool:=a.any (zfu c b)
set_option maxHeartbeats 4000000 in
theorem zVA {c:Cat} {ca cb ce cp:D} {rest:List D} (hc:qW c (.agg [ca,cb,ce,cp])) (sm:c.Sm) {a b:Alt} (ha:a.Ok) (hb:b.Ok) (g:Heap):
  zA Tryz.prog 206 [.iptr (ca::cb::ce::cp::rest) 0,a.d,b.d] g fun r h'=>Ext g h'∧r= .bool (zbK c a.ts b.ts):=by
 have hla:=ql ha.sl;have hlb:=ql hb.sl;have hal:=ha.len;have hbl:=hb.len;obtain⟨q1,q2,_⟩:=zM ha.sl;obtain⟨q3,q4,_⟩:=zM hb.sl;have hE:Ext g g:=Ext.refl g;have hv4:zO true 4 (ca::cb::ce::cp::rest) 0=some (.agg [ca,cb,ce,cp]):=by simp[zO]
 refine zA.of_fn (g:=zPj) mix Tryz.func206 zdx rfl rfl ?_;simp only[Tryz.f206,gJ]
 repeat' first|simp only[go_sem,zIt, *]|apply bc<;>intro hc
 refine zG (fun i fr h'=>fr 0= .iptr (ca::cb::ce::cp::rest) 0∧fr 2=b.d∧fr 11=a.d∧fr 12= .int .i64 (a.ts.length:Int)∧fr 13= .int .i64 (i:Int)∧Ext g h'∧∀j (hj:j<a.ts.length),j<i→zfu c b.ts a.ts[j]=false) a.ts.length (by omega) ?_ ?_ ?_
 ·simp only[go_sem,zIt,true_and,and_true,Int.ofNat_zero];exact⟨hE,fun j hj h0=>by omega⟩
 ·rintro i fr h1 hlt e1 ew ⟨f0,f2,f11,f12,f13,hE1,hj⟩;have a1:=zBv ha.sl hlt;have hzt:=fun e=>zH4 (p:=zfu c b.ts) hlt e;have hzn:=fun e=>yi (p:=zfu c b.ts) hlt hj e;generalize a.ts[i]=z at *
  have hst:zQ Tryz.prog 79 (.ptr h1.next 0) (.agg z.cells) (h1.new h1.next (.row [.str [], .str []]))=some (h1.new h1.next (.row z.cells)):=zU qz (by omega) rfl rfl rfl;have hv2:zO true 2 z.cells 0=some (.agg z.cells):=zB rfl (by omega);obtain⟨H,hH,hrow,hEH,hnx⟩:∃H,h1.new h1.next (.row z.cells)=H∧H.at' h1.next=some (.row z.cells)∧Ext g H∧h1.next<H.next:=⟨_,rfl,zJ _ _ _,hE1.new hE1.1 _,by rw[zD];omega⟩;rw[hH] at hst;clear hj hE hE1 hH
  repeat' first|simp only[go_sem,zIt, *]|apply bc<;>intro hc
  obtain⟨n1,hn1⟩:∃n,h1.next=n:=⟨_,rfl⟩;rw[hn1] at hrow hnx⊢;refine zG (fun j fr h'=>fr 0= .iptr (ca::cb::ce::cp::rest) 0∧fr 2=b.d∧fr 11=a.d∧fr 12= .int .i64 (a.ts.length:Int)∧fr 13= .int .i64 (i:Int)∧fr 8= .ptr n1 0∧fr 17=b.d∧fr 18= .int .i64 (b.ts.length:Int)∧fr 19= .int .i64 (j:Int)∧h'.at' n1=some (.row z.cells)∧n1<h'.next∧Ext g h'∧∀k (hk:k<b.ts.length),k<j→zED c z.a b.ts[k].a=false) b.ts.length (by omega) ?_ ?_ ?_
  ·simp only[go_sem,zIt,true_and,and_true,Int.ofNat_zero];exact⟨f0,f2,f11,f12,f13,hrow,hnx,hEH,fun j hj h0=>by omega⟩
  ·clear f0 f2 f11 f12 f13 hrow hEH hst hnx hn1;rintro j fr2 h2 hltj e2 ew2 ⟨f0,f2,f11,f12,f13,f8,f17,f18,f19,hrow,hnx,hE3,hj⟩;have b1:=zBv hb.sl hltj;have hyt:zED c z.a b.ts[j].a=true→zfu c b.ts z=true:=fun e=>zH4 (p:=fun y:Trm=>zED c z.a y.a) hltj e;have hyn:=fun e=>yi (p:=fun y:Trm=>zED c z.a y.a) hltj hj e;generalize b.ts[j]=y at *
   have hst2:zQ Tryz.prog 79 (.ptr h2.next 0) (.agg y.cells) (h2.new h2.next (.row [.str [], .str []]))=some (h2.new h2.next (.row y.cells)):=zU qz (by omega) rfl rfl rfl;have hvy:zO true 2 y.cells 0=some (.agg y.cells):=zB rfl (by omega);have kz:z.cells[0]? =some (.str z.a):=rfl;have ky:y.cells[0]? =some (.str y.a):=rfl;obtain⟨H3,hH3,hrow3,hrz,hE4,hnx3⟩:∃H,h2.new h2.next (.row y.cells)=H∧H.at' h2.next=some (.row y.cells)∧H.at' n1=some (.row z.cells)∧Ext g H∧n1<H.next:=⟨_,rfl,zJ _ _ _,by rw[zF (by omega)];exact hrow,hE3.new hE3.1 _,by rw[zD];omega⟩;rw[hH3] at hst2
   have hci:=zI1 hc sm z.a y.a H3;clear hj hH3 hE3 a1 hrow hnx;cases hd:zED c z.a y.a with
   |false=>
    rw[hd] at hci;have hn2:=hyn hd;clear hyt hyn hd
    repeat' first|simp only[go_sem,zIt, *]|apply bc<;>intro hc
    refine zS (by kernel_rfl) ?_
    repeat' first|simp only[go_sem,zIt,zX, *]|apply bc<;>intro hc|(refine zA.mono hci ?_;rintro r h ⟨hq,rfl⟩)
    subst hq;exact hn2
   |true=>
    rw[hd] at hci;have hn2:zbK c a.ts b.ts=true:=hzt (hyt hd);clear hyt hyn hd hzt hzn
    repeat' first|simp only[go_sem,zIt, *]|apply bc<;>intro hc
    refine zS (by kernel_rfl) ?_
    repeat' first|simp only[go_sem,zIt,zX, *]|apply bc<;>intro hc|(refine zA.mono hci ?_;rintro r h ⟨rfl,rfl⟩)
  ·clear f0 f2 f11 f12 f13 hrow hEH hst hnx hn1;rintro fr2 h2 e2 ⟨f0,f2,f11,f12,f13,f8,f17,f18,f19,hrow,hnx,hE3,hj⟩;have hn2:=hzn (zD6 (p:=fun y:Trm=>zED c z.a y.a) (fun i hi _=>hj i hi hi));clear hj hzn hzt hrow a1
   repeat' first|simp only[go_sem,zIt, *]|apply bc<;>intro hc
   exact hn2
 ·rintro fr h1 e1 ⟨f0,f2,f11,f12,f13,hE1,hj⟩;have hno:zbK c a.ts b.ts=false:=zD6 fun i hi _=>hj i hi hi;clear hj hE
  repeat' first|simp only[go_sem,zIt, *]|apply bc<;>intro hc
def zRu (fs:List Fac) (t r:Tri):Bool:=decide ((r.1:Int)<(t.1:Int))|| !((r.2.2:Int)==(t.2.2:Int))|| !(zAH fs r.2.1==0)||((qH fs t.1==qH fs r.1)&& !((r.2.1:Int)==(t.2.1:Int)))
def zAz (c:Cat) (fs:List Fac) (al:Nat→Option Alt) (t r:Tri):List (List Int):=
 if(!(zRu fs t r)&&zbK c (zIT al t.1) (zIT al r.1))=true then [[(t.1:Int),(r.1:Int),(t.2.1:Int),(r.2.1:Int),(t.2.2:Int)]] else []
def wc (c:Cat) (fs:List Fac) (al:Nat→Option Alt) (t:Tri):List (List Int):=if(zAH fs t.2.1==0)=true then(zo fs al).flatMap (zAz c fs al t) else []
theorem zJy (c:Cat) (fs:List Fac) (al:Nat→Option Alt) (t r:Tri):(zAz c fs al t r).length≤1:=by unfold zAz;split<;>simp
theorem zJz (c:Cat) {fs:List Fac} (hn:fs.length≤16) (al:Nat→Option Alt) (t:Tri):(wc c fs al t).length≤4096:=by
 unfold wc;split
 ·have h1:=qI (m:=1) (l:=zo fs al) fun r _=>zJy c fs al t r;have h2:=zBI (al:=al) hn;omega
 ·simp
set_option maxHeartbeats 8000000 in
theorem zbL {c:Cat} {fs:List Fac} {al:Nat→Option Alt} {M:KM Int} {O:KV} {sc:List D} {m1 m2:Nat} (hs:Stt c fs al M O sc m1 m2) (hn:fs.length≤16)
  {ff:FuncId} {cap:List D} {Y:List (List Int)→(Nat→Prop)→Heap→Prop} (y:Fnd2 Tryz.prog 5 ff cap Y) {S:Nat→Prop} {w:Heap} (hY:Y [] S w) (hH:StH M O m1 m2 w) (n1:¬S m1) (n2:¬S m2):
  zA Tryz.prog 158 [.iptr sc 0, .fn (.func ff) [] cap] w fun _ h'=>∃S',(∀i,S' i→S i∨w.next≤i)∧But S w h'∧Y ((zo fs al).flatMap (wc c fs al)) S' h':=by
 have hs0:=hs;obtain⟨⟨ca,cb,ce,cp,x,rfl,hc,hx,_⟩,sm,hlen,hok,hget,halt⟩:=hs;have hct:=fun g=>zFN [ca,cb,ce,cp,x, .map m1, .map m2] g;refine zA.of_fn (g:=zJa) mix Tryz.func158 zeS rfl rfl ?_;simp only[Tryz.f158,gJ]
 repeat' first|simp only[go_sem,zEw,zEQ, *]|apply bc<;>intro hc|(refine zA.mono (hct _) ?_;rintro r h ⟨hq,rfl⟩)
 subst hq
 rename Heap=>w
 generalize hL:LRec.mk _ _ _ _ _ _ _=L;have hpe:L.pending=none:=by rw[←hL]
 have hrd:L.st= .ready:=by rw[←hL]
 have hYl:=y.lcl fun k=>yI (zo fs al) (wc c fs al) k;have h4:=zBI (al:=al) hn;refine wQ (W:=WK m1 (.map (kmD (D.int .i64) M)) m2 (.map (kvD O)) fun k=>Y (yI (zo fs al) (wc c fs al) k)) (n:=(zo fs al).length) (el:=elT (zo fs al)) (S:=fun j=>j=m1∨j=m2∨S j) rfl (WK.lcl hYl) hrd hpe ?_ (fun yl hY0=>zCC hs0 yl (fun k S h ⟨_,_,S0,hk,_⟩=>hk.st) hY0) ?_ ?_
 ·exact WK.start hY hH.2.1 hH.2.2 hH.1.1 hH.1.2 n1 n2
 ·intro k S0 h3 hk hid3 hl3 hw3 hn3;obtain⟨t,ht⟩:∃t,(zo fs al)[k]? =some t:=⟨_,List.getElem?_eq_getElem hk⟩;have hgt:(zo fs al).getD k (0,0,0)=t:=by rw[List.getD_eq_getElem?_getD,ht];rfl
  simp only[elT,hgt];obtain⟨p1,p2,p3,a,hal⟩:=zDV (List.mem_of_getElem? ht);have hl3':=hl3;rw[←hL] at hl3';have hst:=zNI t;refine yT.round (g:=zJa) mix hl3' rfl (by kernel_rfl) (by kernel_rfl) (by kernel_rfl) ?_;simp only[go_sem,zEw,hst];refine⟨by rw[zF (by omega)];exact hl3',?_⟩;generalize hB:LRec.mk .busy _ _ _ _ _ _=B;have hLB:({ B with st:= .ready,pending:=none } :LRec)=L:=by rw[←hB,←hL]
  obtain⟨S1,H,hHe,hHn,hrow,hHi,hbH,hwH,hHH,hw⟩:=Lp.open hYl hw3 hid3 hn3 (.row (zBw t)) B;rw[hHe];clear hst hHe hB;have hv3:zO true 3 (zBw t) 0=some (.agg (zBw t)):=zB rfl (by omega);have e1:(zBw t)[0]? =some (.int .i64 (t.1:Int)):=rfl;have e2:(zBw t)[1]? =some (.int .i64 (t.2.1:Int)):=rfl;have e3:(zBw t)[2]? =some (.int .i64 (t.2.2:Int)):=rfl;have hts:zIT al t.1=a.ts:=by simp[zIT,hal]
  have hS13:∀j,S1 j→j<h3.next:=fun j hj=>y.here _ _ _ hw.1 j hj;have a2:=yy hx p2;have hrl:zAH fs t.2.1=fs[t.2.1].rel:=by simp[zAH,p2]
  have k3:fs[t.2.1].cells[3]? =some (.int .i64 fs[t.2.1].rel):=rfl;have hfo:∀ {fr:Frm} {G h7:Heap} {S5:Nat→Prop},G.at' w.next=some (.loop B)→But (fun j=>j=w.next) h3 G→(∀j,S5 j→S1 j∨G.next≤j)→But S1 G h7→Y (yI (zo fs al) (wc c fs al) (k+1)) S5 h7→wB (LpK w.next L (WK m1 (.map (kmD (D.int .i64) M)) m2 (.map (kvD O)) fun k=>Y (yI (zo fs al) (wc c fs al) k)) k S0 h3) w.next .normal fr h7:=fun a1 a2 a3 a4 a5=>Lp.call hYl hLB hid3 hn3 hw a1 a2 a3 a4 a5;rw[qw ht] at hfo;refine zS (by kernel_rfl) ?_;rw[←hrl] at k3;clear hrl;cases hre:(zAH fs t.2.1==0) with
  |false=>
   have hv:wc c fs al t= []:=by unfold wc;rw[hre];rfl
   rw[hv,List.append_nil] at hfo;have hfn:=fun fr=>hfo (fr:=fr) hHi hbH (fun j hj=> .inl hj) (But.refl S1 H) hwH;clear hL hLB hs0 hY hH hw3 hl3' hl3 ht hct hfo
   repeat' first|simp only[go_sem,zEw,zX, *]|apply bc<;>intro hc
  |true=>
   have hv:wc c fs al t=(zo fs al).flatMap (zAz c fs al t):=by unfold wc;rw[hre];rfl
   rw[hv] at hfo
   repeat' first|simp only[go_sem,zEw,zX,zEQ, *]|apply bc<;>intro hc|(refine zA.mono (hct _) ?_;rintro r h ⟨hq,rfl⟩)
   subst hq
   rename Heap=>H
   generalize hL2:LRec.mk .ready _ _ _ _ _ _=L2;have hpe2:L2.pending=none:=by rw[←hL2]
   have hrd2:L2.st= .ready:=by rw[←hL2]
   have hYl2:=y.lcl fun k2=>yI (zo fs al) (wc c fs al) k++yI (zo fs al) (zAz c fs al t) k2;have hm1:¬S1 m1∧¬S1 m2:=hw.2.2.2.1;obtain⟨l,hl⟩:∃l:List (Nat×Obj),l= [(m1, .map (kmD (D.int .i64) M)),(m2, .map (kvD O)),(h3.next, .row (zBw t))]:=⟨_,rfl⟩;have hst0:∀p∈l,p.1<H.next∧H.at' p.1=some p.2∧¬S1 p.1:=by
    rw[hl];intro p hp;simp only[List.mem_cons,List.not_mem_nil,or_false] at hp;rcases hp with rfl|rfl|rfl
    ·exact⟨hHH.2.1,hHH.1.1,hm1.1⟩
    ·exact⟨hHH.2.2,hHH.1.2,hm1.2⟩
    ·exact⟨by rw[hHn];omega,hrow,fun e=>Nat.lt_irrefl _ (hS13 _ e)⟩
   have hget3:∀ {h:Heap},(∀p∈l,p.1<h.next∧h.at' p.1=some p.2)→StH M O m1 m2 h∧h3.next<h.next∧h.at' h3.next=some (.row (zBw t)):=by
    rw[hl];intro h hp;have q1:=hp (m1, .map (kmD (D.int .i64) M)) (by simp);have q2:=hp (m2, .map (kvD O)) (by simp);have q3:=hp (h3.next, .row (zBw t)) (by simp);exact⟨⟨⟨q1.2,q2.2⟩,q1.1,q2.1⟩,q3⟩
   clear hl;refine⟨⟨_,hHi⟩,wQ (W:=WL l fun k2=>Y (yI (zo fs al) (wc c fs al) k++yI (zo fs al) (zAz c fs al t) k2)) (n:=(zo fs al).length) (el:=elT (zo fs al)) (S:=fun j=>(∃p∈l,j=p.1)∨S1 j) hHn (WL.lcl hYl2) hrd2 hpe2 ?_ (fun yl hY0=>zCC hs0 yl (fun k S h ⟨_,_,S0,hk,_⟩=>(hget3 hk.st).1) hY0) ?_ ?_⟩
   ·exact WL.start (by rw[show yI (zo fs al) (zAz c fs al t) 0= [] from rfl,List.append_nil];exact hwH) hst0
   ·intro k2 S3 h5 hk2 hid4 hl4 hw4 hn4;obtain⟨r,hr⟩:∃r,(zo fs al)[k2]? =some r:=⟨_,List.getElem?_eq_getElem hk2⟩;have hgr:(zo fs al).getD k2 (0,0,0)=r:=by rw[List.getD_eq_getElem?_getD,hr];rfl
    obtain⟨r1,r2,r3,b,hbl⟩:=zDV (List.mem_of_getElem? hr);simp only[elT,hgr];have hl4':=hl4;rw[←hL2] at hl4';have hst:=zNI r;refine yT.round (g:=zJa) mix hl4' rfl (by kernel_rfl) (by kernel_rfl) (by kernel_rfl) ?_;simp only[go_sem,zEw,hst];refine⟨by rw[zF (by omega)];exact hl4',?_⟩;generalize hB2:LRec.mk .busy _ _ _ _ _ _=B2;have hLB2:({ B2 with st:= .ready,pending:=none } :LRec)=L2:=by rw[←hB2,←hL2]
    obtain⟨S4,H4,hHe4,hHn4,hrow4,hHi4,hbH4,hwH4,hHH4,hw5⟩:=Lp.openL hYl2 hw4 hid4 hn4 (.row (zBw r)) B2;rw[hHe4];clear hHe4 hB2 hst;obtain⟨g1,g2,g3⟩:=hget3 (h:=H4) fun p hp=>⟨by have:=(hHH4 p hp).1;omega,(hHH4 p hp).2⟩
    have hfin:∀ {fr:Frm} {G h7:Heap} {S5:Nat→Prop},G.at' (h3.next+1)=some (.loop B2)→But (fun j=>j=h3.next+1) h5 G→(∀j,S5 j→S4 j∨G.next≤j)→But S4 G h7→Y (yI (zo fs al) (wc c fs al) k++yI (zo fs al) (zAz c fs al t) (k2+1)) S5 h7→wB (LpK (h3.next+1) L2 (WL l fun k2=>Y (yI (zo fs al) (wc c fs al) k++yI (zo fs al) (zAz c fs al t) k2)) k2 S3 h5) (h3.next+1) .normal fr h7:=fun a1 a2 a3 a4 a5=>Lp.callL hYl2 hLB2 hid4 hn4 hw5 a1 a2 a3 a4 a5;rw[qw hr] at hfin;have b1:=yy hx p1;have b2:=yy hx r1;have b3:=yy hx r2;have o1:(zBw r)[0]? =some (.int .i64 (r.1:Int)):=rfl
    have o2:(zBw r)[1]? =some (.int .i64 (r.2.1:Int)):=rfl;have o3:(zBw r)[2]? =some (.int .i64 (r.2.2:Int)):=rfl;have w1:qH fs t.1=fs[t.1].comp:=by simp[qH,p1]
    have w2:qH fs r.1=fs[r.1].comp:=by simp[qH,r1]
    have w3:zAH fs r.2.1=fs[r.2.1].rel:=by simp[zAH,r2]
    have k5:fs[t.1].cells[1]? =some (.str fs[t.1].comp):=rfl;have k6:fs[r.1].cells[1]? =some (.str fs[r.1].comp):=rfl;have k7:fs[r.2.1].cells[3]? =some (.int .i64 fs[r.2.1].rel):=rfl;rw[←w1] at k5;rw[←w2] at k6;rw[←w3] at k7;clear w1 w2 w3;have hul:(yI (zo fs al) (wc c fs al) k++yI (zo fs al) (zAz c fs al t) k2).length<16777216:=by
     have q1:(yI (zo fs al) (wc c fs al) k).length≤k*4096:=by
      have:=qI (m:=4096) (l:=(zo fs al).take k) fun t _=>zJz c hn al t;rw[List.length_take] at this;exact Nat.le_trans this (Nat.mul_le_mul_right _ (Nat.min_le_left _ _))
     have q2:(yI (zo fs al) (zAz c fs al t) k2).length≤k2*1:=by
      have:=qI (m:=1) (l:=(zo fs al).take k2) fun r _=>zJy c fs al t r;rw[List.length_take] at this;exact Nat.le_trans this (Nat.mul_le_mul_right _ (Nat.min_le_left _ _))
     rw[List.length_append];omega
    have hgo:=fun S h hy=>y.go _ S h [(t.1:Int),(r.1:Int),(t.2.1:Int),(r.2.1:Int),(t.2.2:Int)] .full hy hul (by simp) (by simp) (by
     intro n hn;simp only[List.mem_cons,List.not_mem_nil,or_false] at hn;rcases hn with rfl|rfl|rfl|rfl|rfl<;>exact zRt (by omega))
    simp only[List.nil_append,List.cons_append] at hgo;have hb5:=bs5 (t.1:Int) (r.1:Int) (t.2.1:Int) (r.2.1:Int) (t.2.2:Int);have hlk1:=zLO hs0 g1.1.1 p1 false;rw[hal] at hlk1;replace hlk1:yQ Tryz.prog 148 (.map m1) (.int .i64 (t.1:Int)) false H4=some a.d:=hlk1;have hlk2:=zLO hs0 g1.1.1 r1 false;rw[hbl] at hlk2;replace hlk2:yQ Tryz.prog 148 (.map m1) (.int .i64 (r.1:Int)) false H4=some b.d:=hlk2;have hts2:zIT al r.1=b.ts:=by simp[zIT,hbl]
    have hav:zAz c fs al t r=if(!(zRu fs t r)&&zbK c a.ts b.ts)=true then [[(t.1:Int),(r.1:Int),(t.2.1:Int),(r.2.1:Int),(t.2.2:Int)]] else []:=by unfold zAz;rw[hts,hts2]
    rw[hav] at hfin;have hco:=zVA (rest:=[x, .map m1, .map m2]) hc sm (hs0.alt _ _ hal) (hs0.alt _ _ hbl) H4;obtain⟨q1,q2,_⟩:=zM (hs0.alt _ _ hal).sl;obtain⟨q3,q4,_⟩:=zM (hs0.alt _ _ hbl).sl;have h35:h3.next<h5.next:=by omega
    clear hL hLB hL2 hLB2 hs0 hY hH hw3 hl3' hl3 ht hct hget hok hget3 hst0 hl4 hl4' hw4 hw5 hHH4 hwH hHH hfo hv hav hul;generalize h3.next=n3 at *
    generalize h5.next=n5 at *
    refine zx Heap.emp [(0, .no,false),(9, .no,false),(1, .no,false),(2, .no,false),(3, .no,false),(4, .no,false),(5, .no,false),(6, .no,false),(7, .no,false),(8, .no,false),(10, .no,false),(11, .no,false),(12, .no,false),(13, .no,false),(14, .no,false),(15, .no,false),(16, .no,false),(17, .no,false),(18, .no,false),(19, .no,false)] (by kernel_rfl) (by kernel_rfl) (fun i ob e=>by cases e) ?_
    repeat' first|simp only[go_sem,zEw,zX, *]|apply bc<;>intro hc
    refine zCX (fun fr' h'=>fr' 75= .bool (zRu fs t r)∧fr' 2= .iptr [.iptr [ca,cb,ce,cp,x, .map m1, .map m2] 0] 0∧fr' 3= .iptr [.fn (.func ff) [] cap] 0∧fr' 4= .ptr n3 0∧fr' 5= .ptr n5 0∧h'=H4) ?_ ?_
    ·refine zS (by kernel_rfl) ?_;unfold zRu;clear hfin hgo hco
     repeat' first|simp only[go_sem,zEw,zX, *]|apply bc<;>intro hc
    rintro fr' G ⟨f75,f2,f3,f4,f5,rfl⟩;clear b1 b2 b3 k5 k6 k7 a2 k3;cases hsk:zRu fs t r with
    |true=>
     rw[hsk,if_neg (by simp),List.append_nil] at hfin;rw[hsk] at f75;have hfn:=fun fr=>hfin (fr:=fr) hHi4 hbH4 (fun j hj=> .inl hj) (But.refl S4 G) hwH4;clear hfin hgo hco
     repeat' first|simp only[go_sem,zEw, *]|apply bc<;>intro hc
    |false=>
     rw[hsk] at hfin f75
     repeat' first|simp only[go_sem,zEw, *]|apply bc<;>intro hc
     refine zx Heap.emp [(0, .no,false),(1, .no,false),(8, .no,false),(2, .no,false),(3, .no,false),(4, .no,false),(5, .no,false),(6, .no,false),(7, .no,false),(9, .no,false),(10, .no,false),(11, .no,false),(12, .no,false),(13, .no,false),(14, .no,false),(15, .no,false)] (by kernel_rfl) (by kernel_rfl) (fun i ob e=>by cases e) ?_
     repeat' first|simp only[go_sem,zEw,zX, *]|apply bc<;>intro hc
     refine hco.mono ?_;rintro r' H5 ⟨hE5,rfl⟩;have hrow5:=(hE5.2 _ g2).trans g3;have hrow6:=(hE5.2 _ (by omega)).trans hrow4;have hbH5:=hbH4.ext1 hE5;have hHi5:=(hE5.2 _ (by omega)).trans hHi4;have hwH5:=y.ext hwH4 hE5;cases hb:zbK c a.ts b.ts with
     |false=>
      rw[hb,if_neg (by decide),List.append_nil] at hfin;have hfn:=fun fr=>hfin (fr:=fr) hHi5 hbH5 (fun j hj=> .inl hj) (But.refl S4 H5) hwH5;clear hfin hgo hco
      repeat' first|simp only[go_sem,zEw, *]|apply bc<;>intro hc
     |true=>
      rw[hb,if_pos (by decide)] at hfin;simp only[go_sem,zEw,f2,f3,f4,f5,hrow5,hrow6,e1,e2,e3,o1,o2,o3,hb5];refine(hgo _ _ hwH5).mono ?_;rintro r h7 ⟨S5,hs5,hb5,hw5⟩;rw[List.append_assoc] at hw5;exact hfin hHi5 hbH5 hs5 hb5 hw5
   ·intro S' h5 hs hb hw5;obtain⟨S5,hs5,hb5,hw6⟩:=WL.stop (fun p hp=>(hst0 p hp).2.1) (fun j hj=>by rw[hHn];exact hs j hj) hb hw5;rw[zAI] at hw6;have hfn:=fun fr=>hfo (fr:=fr) hHi hbH hs5 hb5 hw6;simp only[go_sem,zEw];exact hfn _
 ·intro S2 h5 hs hb hw;obtain⟨S5,hs5,hb5,hw5⟩:=WK.stop hH.1.1 hH.1.2 hs hb hw;rw[zAI] at hw5;simp only[go_sem,zEw];exact⟨S5,hs5,hb5,hw5⟩
theorem zbM (g:Fac) (h:Heap):zA Tryz.prog 207 [.agg g.cells] h fun r h'=>h'=h∧r= .bool true:=by
 refine zA.of_fn (g:=zPr) mix Tryz.func207 zeE rfl rfl ?_;simp only[Tryz.f207,gJ]
 repeat' first|simp only[go_sem,ziJ, *]|apply bc<;>intro hc
theorem zbN (g:Fac) (h:Heap):zA Tryz.prog 209 [.agg g.cells] h fun r h'=>h'=h∧r= .bool true:=by
 refine zA.of_fn (g:=zTz) mix Tryz.func209 ziq rfl rfl ?_;simp only[Tryz.f209,gJ]
 repeat' first|simp only[go_sem,zio, *]|apply bc<;>intro hc
theorem zbO {fs:List Fac} {sc:List D} {x:D} (hsc:sc[4]? =some x) (hx:zf 12 (zFC fs) x) {u:Nat} (hu:u<fs.length) (g:Fac) {id:Nat} {h:Heap} (hi:h.at' id=some (.row [.int .i64 (u:Int)])):
  zA Tryz.prog 208 [.agg g.cells, .iptr [.iptr sc 0] 0, .ptr id 0] h fun r h'=>h'=h∧r= .bool (g.out==qX fs u):=by
 have k1:fs[u].cells[2]? =some (.str fs[u].out):=rfl;have k2:g.cells[2]? =some (.str g.out):=rfl;have ha:=yy hx hu;have ho:qX fs u=fs[u].out:=by simp[qX,hu]
 refine zA.of_fn (g:=zP0) mix Tryz.func208 zeX rfl rfl ?_;simp only[Tryz.f208,gJ]
 repeat' first|simp only[go_sem,zeW, *]|apply bc<;>intro hc
 refine zx Heap.emp [(2, .no,false),(6, .no,false),(0, .no,false),(1, .no,false),(3, .no,false),(4, .no,false),(5, .no,false),(7, .no,false),(8, .no,false),(9, .no,false),(10, .no,false),(11, .no,false)] (by kernel_rfl) (by kernel_rfl) (fun i ob e=>by cases e) ?_
 repeat' first|simp only[go_sem,zeW,zX, *]|apply bc<;>intro hc
def zQl (fs:List Fac) (i:Nat):List (List UInt8):=match fs[i]? with
 |some f=>f.list
 |none=>[]
abbrev zDu (fs:List Fac):List Nat:=fIx 3 (fun _=>true) fs
abbrev zIV (fs:List Fac):List Nat:=fIx 2 (fun _=>true) fs
def zIW (i h:Nat):List (List Int):=[[(i:Int),(h:Int)]]
def zCD (fs:List Fac) (O:KV) (i:Nat):List (List Int):=match zFr (qX fs i) O with
 |none=>[]
 |some own=>if((zQl fs i).any fun s=>s==own)=true then [] else(zBx fs i).flatMap (zIW i)
theorem zNL {fs:List Fac} (hn:fs.length≤16) (O:KV) (i:Nat):(zCD fs O i).length≤16:=by
 unfold zCD;split
 ·simp
 ·split
  ·simp
  ·have h1:=qI (m:=1) (l:=zBx fs i) fun h _=>(show(zIW i h).length≤1 from Nat.le_refl _)
   have h2:(zBx fs i).length≤fs.length:=qG _ fs 0;omega
set_option maxHeartbeats 8000000 in
theorem zfv {c:Cat} {fs:List Fac} {al:Nat→Option Alt} {M:KM Int} {O:KV} {sc:List D} {m1 m2:Nat} (hs:Stt c fs al M O sc m1 m2) (hn:fs.length≤16)
  {ff:FuncId} {cap:List D} {Y:List (List Int)→(Nat→Prop)→Heap→Prop} (y:Fnd2 Tryz.prog 5 ff cap Y) {S:Nat→Prop} {w:Heap} (hY:Y [] S w) (hH:StH M O m1 m2 w) (n1:¬S m1) (n2:¬S m2):
  zA Tryz.prog 159 [.iptr sc 0, .fn (.func ff) [] cap] w fun _ h'=>∃S',(∀i,S' i→S i∨w.next≤i)∧But S w h'∧Y ((zDu fs).flatMap (zCD fs O)) S' h':=by
 have hs0:=hs;obtain⟨⟨ca,cb,ce,cp,x,rfl,hc,hx,_⟩,sm,hlen,hok,hget,halt⟩:=hs;have hcf0:=fun g=>zF0 [ca,cb,ce,cp,x, .map m1, .map m2] 3 (hf:= .fn (.func 207) [] []) ⟨_,_,_,rfl⟩ g;refine zA.of_fn (g:=zJb) mix Tryz.func159 zek rfl rfl ?_;simp only[Tryz.f159,gJ]
 repeat' first|simp only[go_sem,zFk,zDU, *]|apply bc<;>intro hc|(refine zA.mono (hcf0 _) ?_;rintro r h ⟨hq,rfl⟩)
 subst hq
 rename Heap=>w
 generalize hL:LRec.mk _ _ _ _ _ _ _=L;have hpe:L.pending=none:=by rw[←hL]
 have hrd:L.st= .ready:=by rw[←hL]
 have hYl:=y.lcl fun k=>yI (zDu fs) (zCD fs O) k;refine wQ (W:=WK m1 (.map (kmD (D.int .i64) M)) m2 (.map (kvD O)) fun k=>Y (yI (zDu fs) (zCD fs O) k)) (n:=(zDu fs).length) (el:=elI (zDu fs)) (S:=fun j=>j=m1∨j=m2∨S j) rfl (WK.lcl hYl) hrd hpe ?_ (fun yl hY0=>zDm (sc:=[ca,cb,ce,cp,x, .map m1, .map m2]) rfl hx (by omega) hs0.ok yl (R:=fun j=>False) (fun _ h=>h.elim) (fun g hg h2 hr=>zbM g h2) hY0) ?_ ?_
 ·exact WK.start hY hH.2.1 hH.2.2 hH.1.1 hH.1.2 n1 n2
 ·intro k S0 h3 hk hid3 hl3 hw3 hn3;obtain⟨t,ht⟩:∃t,(zDu fs)[k]? =some t:=⟨_,List.getElem?_eq_getElem hk⟩;have hgt:(zDu fs).getD k 0=t:=by rw[List.getD_eq_getElem?_getD,ht];rfl
  have p1:t<fs.length:=by
   have:=(ww _ fs 0 t (List.mem_of_getElem? ht)).2;omega
  simp only[elI,hgt];have hl3':=hl3;rw[←hL] at hl3';have hst7:zQ Tryz.prog 3 (.ptr h3.next 0) (.int .i64 (t:Int)) (h3.new h3.next (.row [.int .i64 0]))=some (h3.new h3.next (.row [.int .i64 (t:Int)])):=by
   rw[zV (zJ _ _ _) wP (by simp) rfl rfl,zCW];rfl
  refine yT.round (g:=zJb) mix hl3' rfl (by kernel_rfl) (by kernel_rfl) (by kernel_rfl) ?_;simp only[go_sem,zFk,hst7];refine⟨by rw[zF (by omega)];exact hl3',?_⟩;generalize hB:LRec.mk .busy _ _ _ _ _ _=B;have hLB:({ B with st:= .ready,pending:=none } :LRec)=L:=by rw[←hB,←hL]
  obtain⟨S1,H,hHe,hHn,hrow,hHi,hbH,hwH,hHH,hw⟩:=Lp.open hYl hw3 hid3 hn3 (.row [.int .i64 (t:Int)]) B;rw[hHe];clear hst7 hHe hB;have hS13:∀j,S1 j→j<h3.next:=fun j hj=>y.here _ _ _ hw.1 j hj;have b1:=yy hx p1;have hot:qX fs t=fs[t].out:=by simp[qX,p1]
  have hli:zQl fs t=fs[t].list:=by simp[zQl,p1]
  have hfo:∀ {fr:Frm} {G h7:Heap} {S5:Nat→Prop},G.at' w.next=some (.loop B)→But (fun j=>j=w.next) h3 G→(∀j,S5 j→S1 j∨G.next≤j)→But S1 G h7→Y (yI (zDu fs) (zCD fs O) (k+1)) S5 h7→wB (LpK w.next L (WK m1 (.map (kmD (D.int .i64) M)) m2 (.map (kvD O)) fun k=>Y (yI (zDu fs) (zCD fs O) k)) k S0 h3) w.next .normal fr h7:=fun a1 a2 a3 a4 a5=>Lp.call hYl hLB hid3 hn3 hw a1 a2 a3 a4 a5;rw[qw ht] at hfo;have k1:fs[t].cells[2]? =some (.str fs[t].out):=rfl;have k2:fs[t].cells[8]? =some (.int .i64 0)∨True:= .inr trivial;have k8:fs[t].cells[11]? =some fs[t].d:=rfl;have okf:=hok _ (List.getElem_mem p1)
  have hcs:=zCZ okf.list okf.ll;obtain⟨q1,q2,_⟩:=zM okf.list;have hlk:=zU6 hHH.1.2 (qX fs t) true;have hmt:zCD fs O t=match zFr (qX fs t) O with
   |none=>[]
   |some own=>if(fs[t].list.any fun s=>s==own)=true then [] else(zBx fs t).flatMap (zIW t):=by unfold zCD;rw[hli]
  rw[←hot] at k1;clear hot hli k2;generalize fs[t]=f at *
  refine zx Heap.emp [(0, .no,false),(4, .no,false),(8, .no,false),(1, .no,false),(2, .no,false),(3, .no,false),(5, .no,false),(6, .no,false),(7, .no,false),(9, .no,false),(10, .no,false),(11, .no,false),(12, .no,false),(13, .no,false),(14, .no,false),(15, .no,false),(16, .no,false),(17, .no,false)] (by kernel_rfl) (by kernel_rfl) (fun i ob e=>by cases e) ?_;have hquiet:zCD fs O t= []→∀fr,wB (LpK w.next L (WK m1 (.map (kmD (D.int .i64) M)) m2 (.map (kvD O)) fun k=>Y (yI (zDu fs) (zCD fs O) k)) k S0 h3) w.next .normal fr H:=fun e fr=>by
   rw[e,List.append_nil] at hfo;exact hfo hHi hbH (fun j hj=> .inl hj) (But.refl S1 H) hwH
  cases hov:zFr (qX fs t) O with
  |none=>
   rw[hov] at hlk hmt;replace hlk:yQ Tryz.prog 149 (.map m2) (.str (qX fs t)) true H=some (.tuple [.str [], .bool false]):=hlk;have hfn:=hquiet hmt;clear hL hLB hs0 hY hH hw3 hl3' hl3 ht hcf0 hfo hquiet hmt hov hwH hHH
   repeat' first|simp only[go_sem,zFk,zX, *]|apply bc<;>intro hc
   refine zx Heap.emp [(0, .no,false),(1, .no,false),(2, .no,false),(3, .no,false),(7, .no,false),(4, .no,false),(5, .no,false),(6, .no,false),(8, .no,false),(9, .no,false),(10, .no,false),(11, .no,false),(12, .no,false),(13, .no,false)] (by kernel_rfl) (by kernel_rfl) (fun i ob e=>by cases e) ?_
   repeat' first|simp only[go_sem,zFk,zX, *]|apply bc<;>intro hc
  |some own=>
   rw[hov] at hlk hmt;replace hlk:yQ Tryz.prog 149 (.map m2) (.str (qX fs t)) true H=some (.tuple [.str own, .bool true]):=hlk;cases hin:f.list.any fun s=>s==own with
   |true=>
    have hfn:=hquiet (by rw[hmt];simp only[hin,if_true]);clear hL hLB hs0 hY hH hw3 hl3' hl3 ht hcf0 hfo hquiet hmt hov hwH hHH;have hc0:=hcs own H;rw[hin] at hc0
    repeat' first|simp only[go_sem,zFk,zX, *]|apply bc<;>intro hc
    refine zx Heap.emp [(0, .no,false),(1, .no,false),(2, .no,false),(3, .no,false),(7, .no,false),(4, .no,false),(5, .no,false),(6, .no,false),(8, .no,false),(9, .no,false),(10, .no,false),(11, .no,false),(12, .no,false),(13, .no,false)] (by kernel_rfl) (by kernel_rfl) (fun i ob e=>by cases e) ?_
    repeat' first|simp only[go_sem,zFk,zX, *]|apply bc<;>intro hc|(refine zA.mono hc0 ?_;rintro r h ⟨hq,rfl⟩)
   |false=>
    have hmt2:zCD fs O t=(zBx fs t).flatMap (zIW t):=by rw[hmt];simp only[hin,Bool.false_eq_true,if_false]
    rw[hmt2] at hfo;have hc0:=hcs own H;rw[hin] at hc0;clear hquiet hmt hmt2 hov hcs hin;have hcf:=fun g=>zF0 [ca,cb,ce,cp,x, .map m1, .map m2] 2 (hf:= .fn (.func 208) [] [.iptr [.iptr [ca,cb,ce,cp,x, .map m1, .map m2] 0] 0, .ptr h3.next 0]) ⟨_,_,_,rfl⟩ g
    repeat' first|simp only[go_sem,zFk,zX, *]|apply bc<;>intro hc
    refine zx Heap.emp [(0, .no,false),(1, .no,false),(2, .no,false),(3, .no,false),(7, .no,false),(4, .no,false),(5, .no,false),(6, .no,false),(8, .no,false),(9, .no,false),(10, .no,false),(11, .no,false),(12, .no,false),(13, .no,false)] (by kernel_rfl) (by kernel_rfl) (fun i ob e=>by cases e) ?_
    repeat' first|simp only[go_sem,zFk,zX, *]|apply bc<;>intro hc|(refine zA.mono hc0 ?_;rintro r h ⟨hq,rfl⟩)
    subst hq
    rename Heap=>H
    repeat' first|simp only[go_sem,zFk,zDU, *]|apply bc<;>intro hc|(refine zA.mono (hcf _) ?_;rintro r h ⟨hq,rfl⟩)
    subst hq
    rename Heap=>H
    generalize hL2:LRec.mk .ready _ _ _ _ _ _=L2;have hpe2:L2.pending=none:=by rw[←hL2]
    have hrd2:L2.st= .ready:=by rw[←hL2]
    have hYl2:=y.lcl fun k2=>yI (zDu fs) (zCD fs O) k++yI (zBx fs t) (zIW t) k2;obtain⟨l,hl⟩:∃l:List (Nat×Obj),l= [(h3.next, .row [.int .i64 (t:Int)])]:=⟨_,rfl⟩;have hst0:∀p∈l,p.1<H.next∧H.at' p.1=some p.2∧¬S1 p.1:=by
     rw[hl];intro p hp;cases List.mem_singleton.1 hp;exact⟨by rw[hHn];omega,hrow,fun e=>Nat.lt_irrefl _ (hS13 _ e)⟩
    have hget3:∀ {h:Heap},(∀p∈l,p.1<h.next∧h.at' p.1=some p.2)→h3.next<h.next∧h.at' h3.next=some (.row [.int .i64 (t:Int)]):=by
     rw[hl];exact fun hp=>hp (h3.next, .row [.int .i64 (t:Int)]) (by simp)
    clear hl;refine⟨⟨_,hHi⟩,wQ (W:=WL l fun k2=>Y (yI (zDu fs) (zCD fs O) k++yI (zBx fs t) (zIW t) k2)) (n:=(zBx fs t).length) (el:=elI (zBx fs t)) (S:=fun j=>(∃p∈l,j=p.1)∨S1 j) hHn (WL.lcl hYl2) hrd2 hpe2 ?_ (fun yl hY0=>zDm (sc:=[ca,cb,ce,cp,x, .map m1, .map m2]) rfl hx (by omega) hs0.ok yl (R:=fun j=>j=h3.next) ?_ (fun g hg h2 hr=> ?_) hY0) ?_ ?_⟩
    ·exact WL.start (by rw[show yI (zBx fs t) (zIW t) 0= [] from rfl,List.append_nil];exact hwH) hst0
    ·rintro j rfl;refine⟨by rw[zb _ (by omega)];omega, .inr ?_⟩;rintro k S2 h2 ⟨_,_,S0,hk,_⟩;rw[(hget3 hk.st).2,zF (by omega),hrow]
    ·exact(zbO (sc:=[ca,cb,ce,cp,x, .map m1, .map m2]) rfl hx p1 g (by rw[hr _ rfl,zF (by omega),hrow])).mono fun r h3 e=>e
    ·intro k2 S3 h5 hk2 hid4 hl4 hw4 hn4;obtain⟨v,hv⟩:∃v,(zBx fs t)[k2]? =some v:=⟨_,List.getElem?_eq_getElem hk2⟩;have hgv:(zBx fs t).getD k2 0=v:=by rw[List.getD_eq_getElem?_getD,hv];rfl
     have hvl:v<fs.length:=by
      have:=(ww _ fs 0 v (List.mem_of_getElem? hv)).2;omega
     simp only[elI,hgv];have hl4':=hl4;rw[←hL2] at hl4';refine yT.round (g:=zJb) mix hl4' rfl (by kernel_rfl) (by kernel_rfl) (by kernel_rfl) ?_;simp only[go_sem,zFk];refine⟨hl4',?_⟩;generalize hB2:LRec.mk .busy _ _ _ _ _ _=B2;have hLB2:({ B2 with st:= .ready,pending:=none } :LRec)=L2:=by rw[←hB2,←hL2]
     obtain⟨S4,H4,hHe4,hHn4,hHi4,hbH4,hwH4,hHH4,hw5⟩:=Lp.openL0 hYl2 hw4 hid4 hn4 B2;rw[hHe4];obtain⟨g2,g3⟩:=hget3 (h:=H4) fun p hp=>⟨by rw[hHn4];exact(hHH4 p hp).1,(hHH4 p hp).2⟩;have hul:(yI (zDu fs) (zCD fs O) k++yI (zBx fs t) (zIW t) k2).length<16777216:=by
      have q1:=zCm (V:=zCD fs O) (l:=zDu fs) (m:=16) (fun t _=>zNL hn O t) k;have q2:=zCm (V:=zIW t) (l:=zBx fs t) (m:=1) (fun k _=>Nat.le_refl _) k2;have q3:(zBx fs t).length≤fs.length:=qG _ fs 0;have q4:(zDu fs).length≤fs.length:=qG _ fs 0;rw[List.length_append];omega
     have hgo:=y.go _ S4 H4 [(t:Int),(v:Int)] .full hwH4 hul (by simp) (by simp) (by
      intro n hn;simp only[List.mem_cons,List.not_mem_nil,or_false] at hn;rcases hn with rfl|rfl<;>exact zRt (by omega))
     simp only[List.nil_append,List.cons_append] at hgo;have hb2:=bs2 (t:Int) (v:Int);simp only[go_sem,zFk,hb2,g3];refine hgo.mono ?_;rintro r h7 ⟨S5,hs5,hb5,hw6⟩;rw[List.append_assoc] at hw6;refine Lp.callL hYl2 hLB2 hid4 hn4 hw5 hHi4 hbH4 hs5 hb5 ?_;rw[qw hv];exact hw6
    ·intro S' h5 hs hb hw5;obtain⟨S5,hs5,hb5,hw6⟩:=WL.stop (fun p hp=>(hst0 p hp).2.1) (fun j hj=>by rw[hHn];exact hs j hj) hb hw5;rw[zAI] at hw6;have hfn:=fun fr=>hfo (fr:=fr) hHi hbH hs5 hb5 hw6;simp only[go_sem,zFk];exact hfn _
 ·intro S2 h5 hs hb hw;obtain⟨S5,hs5,hb5,hw5⟩:=WK.stop hH.1.1 hH.1.2 hs hb hw;rw[zAI] at hw5;simp only[go_sem,zFk];exact⟨S5,hs5,hb5,hw5⟩
def zNM (h:Nat):List (List Int):=[[(h:Int)]]
def zIX (c:Cat) (fs:List Fac):List (List Int):=if decide ((c.ls.length:Int)>0)=true then [] else(zIV fs).flatMap zNM
set_option maxHeartbeats 8000000 in
theorem zfw {c:Cat} {fs:List Fac} {al:Nat→Option Alt} {M:KM Int} {O:KV} {sc:List D} {m1 m2:Nat} (hs:Stt c fs al M O sc m1 m2) (hn:fs.length≤16)
  {ff:FuncId} {cap:List D} {Y:List (List Int)→(Nat→Prop)→Heap→Prop} (y:Fnd2 Tryz.prog 5 ff cap Y) {S:Nat→Prop} {w:Heap} (hY:Y [] S w) (hH:StH M O m1 m2 w) (n1:¬S m1) (n2:¬S m2):
  zA Tryz.prog 160 [.iptr sc 0, .fn (.func ff) [] cap] w fun _ h'=>∃S',(∀i,S' i→S i∨w.next≤i)∧But S w h'∧Y (zIX c fs) S' h':=by
 have hs0:=hs;obtain⟨⟨ca,cb,ce,cp,x,rfl,hc,hx,hca⟩,sm,hlen,hok,hget,halt⟩:=hs;have hll:=wl hca;have hcf0:=fun g=>zF0 [ca,cb,ce,cp,x, .map m1, .map m2] 2 (hf:= .fn (.func 209) [] []) ⟨_,_,_,rfl⟩ g;refine zA.of_fn (g:=zMX) mix Tryz.func160 ze0 rfl rfl ?_;simp only[Tryz.f160,gJ];cases hd:decide ((c.ls.length:Int)>0) with
 |true=>
  have hn0:zIX c fs= []:=by unfold zIX;rw[hd];rfl
  have hfn:∃S',(∀i,S' i→S i∨w.next≤i)∧But S w w∧Y (zIX c fs) S' w:=⟨S,fun i hi=> .inl hi,But.refl S w,by rw[hn0];exact hY⟩;clear hn0 hcf0
  repeat' first|simp only[go_sem,zT8,zX, *]|apply bc<;>intro hc
 |false=>
  have hn0:zIX c fs=(zIV fs).flatMap zNM:=by unfold zIX;rw[hd];rfl
  rw[hn0];clear hn0
  repeat' first|simp only[go_sem,zT8,zX,zDU, *]|apply bc<;>intro hc|(refine zA.mono (hcf0 _) ?_;rintro r h ⟨hq,rfl⟩)
  subst hq
  rename Heap=>w
  generalize hL:LRec.mk _ _ _ _ _ _ _=L;have hpe:L.pending=none:=by rw[←hL]
  have hrd:L.st= .ready:=by rw[←hL]
  have hYl:=y.lcl fun k=>yI (zIV fs) zNM k;obtain⟨l,hl⟩:∃l:List (Nat×Obj),l= []:=⟨_,rfl⟩;have hst0:∀p∈l,p.1<w.next∧w.at' p.1=some p.2∧¬S p.1:=by rw[hl];intro p hp;cases hp
  clear hl;refine wQ (W:=WL l fun k=>Y (yI (zIV fs) zNM k)) (n:=(zIV fs).length) (el:=elI (zIV fs)) (S:=fun j=>(∃p∈l,j=p.1)∨S j) rfl (WL.lcl hYl) hrd hpe (WL.start hY hst0) (fun yl hY0=>zDm (sc:=[ca,cb,ce,cp,x, .map m1, .map m2]) rfl hx (by omega) hs0.ok yl (R:=fun j=>False) (fun _ h=>h.elim) (fun g hg h2 hr=>zbN g h2) hY0) ?_ ?_
  ·intro k S0 h3 hk hid3 hl3 hw3 hn3;obtain⟨t,ht⟩:∃t,(zIV fs)[k]? =some t:=⟨_,List.getElem?_eq_getElem hk⟩;have hgt:(zIV fs).getD k 0=t:=by rw[List.getD_eq_getElem?_getD,ht];rfl
   have p1:t<fs.length:=by
    have:=(ww _ fs 0 t (List.mem_of_getElem? ht)).2;omega
   simp only[elI,hgt];have hl3':=hl3;rw[←hL] at hl3';refine yT.round (g:=zMX) mix hl3' rfl (by kernel_rfl) (by kernel_rfl) (by kernel_rfl) ?_;simp only[go_sem,zT8];refine⟨hl3',?_⟩;generalize hB:LRec.mk .busy _ _ _ _ _ _=B;have hLB:({ B with st:= .ready,pending:=none } :LRec)=L:=by rw[←hB,←hL]
   obtain⟨S1,H,hHe,hHn,hHi,hbH,hwH,hHH,hw⟩:=Lp.openL0 hYl hw3 hid3 hn3 B;rw[hHe];have hul:(yI (zIV fs) zNM k).length<16777216:=by
    have q2:=zCm (V:=zNM) (l:=zIV fs) (m:=1) (fun k _=>Nat.le_refl _) k;have q3:(zIV fs).length≤fs.length:=qG _ fs 0;omega
   have hgo:=y.go _ S1 H [(t:Int)] .full hwH hul (by simp) (by simp) (by
    intro n hn;cases List.mem_singleton.1 hn;exact zRt (by omega))
   simp only[List.nil_append,List.cons_append] at hgo;have hb1:=bs1 (t:Int);simp only[go_sem,zT8,hb1];refine hgo.mono ?_;rintro r h7 ⟨S5,hs5,hb5,hw6⟩;refine Lp.callL hYl hLB hid3 hn3 hw hHi hbH hs5 hb5 ?_;rw[qw ht];exact hw6
  ·intro S2 h5 hs hb hw;obtain⟨S5,hs5,hb5,hw5⟩:=WL.stop (fun p hp=>(hst0 p hp).2.1) hs hb hw;rw[zAI] at hw5;simp only[go_sem,zT8];exact⟨S5,hs5,hb5,hw5⟩
end Go.V
