/- Contracts of functions of the library in the numbers of this program, part 2. No condition. -/
import Derived.Test.YtkenagjlanhnmaaGreatDoorW19
import Derived.Test.YtkenagjlanhnmaaGreatDoorW22
set_option linter.all false
set_option maxHeartbeats 8000000
namespace Go.Proofs
open Go.Shelf
def Tryz.laysNm223_ren:Go.Shelf.Ren:=⟨fun|23=>78|n=>n,fun|22=>30|3=>3|4=>4|0=>0|n=>n,fun|n=>n⟩
def Tryz.laysNm223:Go.Proofs.Lays2.n23 Tryz.prog Tryz.laysNm223_ren:=by constructor<;>intros<;>exact lay_k
open Go.RowKit Go.Lib Go.Sort in
def Tryz.slices_Delete_int(a off cap i j:Nat)(zs:List Int)(w:World)(d:Holds (Value.int .i64) w a off zs.toArray)(b:zs.length<=cap)(g:cap<=9223372036854775807)(c:i<=j)(f:j<=zs.length):
  Calls Tryz.prog 78 #[.slice (some ⟨a,off,none⟩) zs.length cap,.int .i64 i,.int .i64 j] w λe h=>e=.returned (.slice (some ⟨a,off,none⟩) (zs.length- (j-i)) cap)/\∃q,h=putRow (Value.int .i64) (Sort.ahead w q) a off (zs.take i++zs.drop j++List.replicate (j-i) 0).toArray:=Any.slices_Delete_int Tryz.laysNm223 a off cap i j zs w d b g c f
end Go.Proofs
namespace Go.V
open Go.Proofs.Tryz
open Go.Proofs
set_option maxRecDepth 100000
theorem GB{d:D}{cells:List D}{h:Heap}(f:QU 1 d h=some cells)(h0:0<cells.length)(g:cells.length<=1048576)(e:∀c,jI prog .eql 30 c d .nilsl=some (.bool false)):
  zE prog 79 [d] h λr h'=>r=.rs h.next 1 0 cells.length/\h'=h.new h.next (.row cells):=by
 refine zu zLl ?_;simp only[f79,zA];simp only[go_sem,Nat.reduceEqDiff,↓reduceIte,e,u9,Nat.reduceBEq,wc qv rv sI rfl rfl (by omega:0<1)];have b:(cells.length)*8<=lim:=by unfold lim;omega
 have a:cells.length<=lim:=by unfold lim;omega
 have:qg prog true h.next 30 (.sl 1 [] .full) d h=some (.rs h.next 1 0 cells.length,h.new h.next (.row cells)):=by
  simp only[qg,qv,Z3,sI,qS,f,Nat.div_one,tp,lq,yo,yZ];rw[ip (by simp[b,a]),iq ow];simp[Ve underlying3]
 simp only[this,go_sem]
theorem cJ:∀{xs:List (List D)},Rc xs=true->∃ks:List Int,xs=ks.map λn=>[.int .i64 n]
 | [],_=>⟨[],rfl⟩
 |x::xs,h=>by
  simp only[Rc,zF]at h;obtain⟨ks,rfl⟩:=cJ h.2;have h1:=h.1;split at h1
  ·rename_i k n;split at h1
   ·exact⟨n::ks,rfl⟩
   ·cases h1
  ·cases h1
theorem Nt{M:Imm}{ρ:Ren}{n:Int}{v:Value}(h:rel M ρ (.int .i64 n) v):v=.int .i64 n/\fits .i64 n:=by
 simp only[rel]at h;exact⟨h.1,h.2⟩
theorem GC{ks:List Int}{i:Nat}{id:Nat}{h:Heap}(p:i<ks.length)(q:ks.length<=1048576)(b:h.at' id=some (.row (ks.map λn=>.int .i64 n))):
  zE prog 78 [.rs id 1 0 ks.length,.int .i64 i,.int .i64 ((i+1:Nat):Int)] h λr h'=>r=.rs id 1 0 (ks.length-1)/\h'=h.set id (.row ((ks.take i++ks.drop (i+1)++ [0]).map λn=>.int .i64 n)):=by
 have:=zE.of_row (P:=prog) (f:=78) (α:=Int) (enc:=Value.int .i64) (dd:=λn=>.int .i64 n) (λM ρ x v hr=>zET hr) (λ_=>rfl) (xs:=ks) (ys:=ks.take i++ks.drop (i+1)++ [0]) (m:=ks.length-1) (rest:=[.int .i64 i,.int .i64 ((i+1:Nat):Int)]) (id:=id) (pre:=[]) (post:=[]) (h:=h) kr (by simpa using b) ow (by simp;omega) ow
  (λy a=>by
   simp only[yp,ze]at a;rcases a with(a|a)|rfl
   ·exact .inl (sP a)
   ·exact .inl (dG a)
   ·exact .inr λM ρ=>uM (by unfold fits;decide))
  (λc o cap w M ρ t j h1 g hr=>by
   simp only[wJ]at hr;obtain⟨v1,k,rfl,d,s,l,rfl,e,rfl⟩:=hr;obtain⟨rfl,_⟩:=Nt d;obtain⟨rfl,_⟩:=Nt e;have:=Tryz.slices_Delete_int c o cap i (i+1) ks w j h1 g ow ow;simp only[uR,List.replicate_one]at this;exact this)
 simpa using this
theorem Y3{ks:List Int}{d:D}{i:Nat}{h:Heap}(k:i<ks.length)(m:ks.length<=1048576)(s:QU 1 d h=some (ks.map λn=>.int .i64 n))(p:∀c,jI prog .eql 30 c d .nilsl=some (.bool false)):
  zE prog 35 [d,.int .i64 i] h λr h'=>h'=h/\r=.sl 1 ((ks.eraseIdx i).map λn=>[.int .i64 n]) .no:=by
 refine xU kr λq=>zE.freezeD ?_;refine zu zOj ?_;simp only[f35,zA];simp only[go_sem,Nat.reduceEqDiff,↓reduceIte];refine(GB s (by simp;omega) (by simpa using m) p).mono ?_;rintro r o ⟨rfl,rfl⟩;have t:IntKind.i64.wrap ((i:Int)+1)=((i+1:Nat):Int):=qR (by unfold lim;omega);simp only[go_sem,Nat.reduceEqDiff,↓reduceIte,t,zG];refine(GC k m (z8 _ _ _)).mono ?_;rintro r o ⟨rfl,rfl⟩;have e:ks.take i++ks.drop (i+1)=ks.eraseIdx i:=(List.eraseIdx_eq_take_drop_succ ks i).symm;have a:(ks.eraseIdx i).length=ks.length-1:=List.length_eraseIdx_of_lt k
 refine⟨h.next,_,zW _ _ _,(((Ext.refl h).new (zD _) _).set (zD _) _).del (zD _),?_⟩;have f:frz h.next ((ks.take i++ks.drop (i+1)++ [0]).map λn=>.int .i64 n) (.rs h.next 1 0 (ks.length-1))=.sl 1 ((ks.eraseIdx i).map λn=>[.int .i64 n]) .no:=by
  have g:∀x∈(ks.eraseIdx i).map (λn=>[D.int .i64 n]),x.length=1:=λx j=>by obtain⟨n,_,rfl⟩:=zM.1 j;rfl
  have b:((ks.eraseIdx i).map λn=>[D.int .i64 n]).flatten=(ks.eraseIdx i).map λn=>D.int .i64 n:=by
   generalize ks.eraseIdx i=l
   induction l with
   |nil=>rfl
   |cons x l u=>simpa using u
  simp only[frz];rw[e,ip (by simp[a])];simp only[ww,wb,wH];rw[wQ (by simp[a]),yV (by simp[a])];have:=o6 g;rw[zG,a,b]at this;rw[this]
 rw[f];refine⟨?_,rfl⟩;simp only[below,zV];exact bA λx j=>by obtain⟨n,_,rfl⟩:=zM.1 j;exact⟨trivial,trivial⟩
theorem XG(ks:List Int):(ks.map λn=>[D.int .i64 n]).flatten=ks.map λn=>D.int .i64 n:=by
 induction ks with
 |nil=>rfl
 |cons x l a=>simpa using a
theorem Y7:∀(n:Nat)(cs:List D),cs.length=n->(wR 1 n cs).flatten=cs/\wR 1 n cs=cs.map λc=>[c]
 |0,cs,h=>by
  have:cs= []:=yM.1 h;subst this;exact⟨rfl,rfl⟩
 |n+1,c::cs,h=>by
  obtain⟨h1,a⟩:=Y7 n cs (by simpa using h);simp only[wR,pq,kD,List.drop_succ_cons,wb];exact⟨by rw[yS,h1];rfl,by rw[a];rfl⟩
 |n+1,[],h=>by simp at h
theorem gZ{α β:Type}(f:α->β):∀(l:List α)(i:Nat),(l.map f).eraseIdx i=(l.eraseIdx i).map f
 | [],_=>by simp
 |_::_,0=>by simp
 |x::l,i+1=>by simp[gZ f l i]
theorem VB(ks:List Int)(i:Nat):(ks.map λn=>[D.int .i64 n]).eraseIdx i=(ks.eraseIdx i).map λn=>[D.int .i64 n]:=gZ _ _ _
theorem Ua{args:List D}{d:D}{h:Heap}(e:ao args h.at'=some d):zE prog 35 args h λa b=>a=d/\b=h:=by
 unfold ao at e;split at e
 ·rename_i x y;split at e
  ·rename_i i;split at e
   ·rename_i sz xs tk;split at e
    ·rename_i l;simp only[zF,zO]at l;obtain⟨⟨⟨⟨h1,o⟩,h3⟩,k⟩,h5⟩:=l;cases e;have e1:sz=1:=ye h1;subst e1;obtain⟨ks,rfl⟩:=cJ o;rw[kW,zG]at k;have h5:=nW h5;rw[zG]at h5;obtain⟨j,rfl⟩:=tM h3;simp only[ui]at k⊢;refine(Y3 (d:=.sl 1 (ks.map λn=>[.int .i64 n]) tk) k h5 (by simp only[QU,qS,XG]) (λc=>by rw[tI (yi.mk tk) underlying30];rfl)).mono λa b f=> ?_;rw[VB];exact⟨f.2,f.1⟩
    ·cases e
   ·rename_i id sz off n;split at e
    ·rename_i cs q;split at e
     ·rename_i l;simp only[zF,zO]at l;obtain⟨⟨⟨⟨⟨⟨h1,m⟩,o⟩,p⟩,h3⟩,k⟩,h5⟩:=l;cases e;have e1:sz=1:=ye h1;have e2:off=0:=ye m;have e3:cs.length=n:=ye p;subst e1 e2;obtain⟨ks,r⟩:=cJ o;obtain⟨s,u⟩:=Y7 n cs e3;have g:cs=ks.map λn=>.int .i64 n:=by rw[<-s,r,XG]
      have t:ks.length=n:=by rw[<-e3,g,zG]
      rw[kW]at k;have h5:=nW h5;obtain⟨j,rfl⟩:=tM h3;simp only[ui]at k⊢;refine(Y3 (ks:=ks) (d:=.rs id 1 0 n) ow ow (by simp only[QU,qS,q];rw[ip ow,wb,yV ow,g]) (λc=>P4 underlying30)).mono λa b f=> ?_;rw[r,VB];exact⟨f.2,f.1⟩
     ·cases e
    ·cases e
   ·cases e
  ·cases e
 ·cases e
open Go.RowKit (Below)
inductive Pl where
 |nil
 |op (i:Nat) (f:Fl) (r:Pl)
 |or (a b:Pl)
section
variable{P:Program}{g:Cfg}{n:Nat}{ro:Option Nat}{k:Nat}{pl:Pl}{mu:Tmp->Bool}{h0:Heap}{Q:Exit->Frm->Heap->Prop}{fr:Frm}{h:Heap}{K:Frm->Heap->Prop}
def Heap.one(i:Nat)(o:Obj):Heap:=⟨0,λj=>if j=i then some o else none⟩
def bf(i:Nat)(o:Obj):(Heap.one i o).at' i=some o:=ip rfl
variable{i:Nat}
def gh{o:Obj} :HLe (Heap.one i o) h=(h.at' i=some o):=by
 apply propext;constructor
 ·exact λq=>q i o (bf i o)
 ·intro q j b a;simp only[Heap.one]at a;split at a
  ·rename_i e;subst e;cases a;exact q
  ·cases a
end
end Go.V
