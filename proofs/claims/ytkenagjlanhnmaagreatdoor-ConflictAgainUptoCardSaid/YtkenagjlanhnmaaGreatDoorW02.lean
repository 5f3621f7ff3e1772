/- A machine of abstract values for programs of the model, and its soundness, part 2. No condition. -/
import Derived.Test.YtkenagjlanhnmaaGreatDoorW01
import Derived.Laws.BytesString
import Derived.Lib.UnsafeStr
import Derived.Lib.LaidTab
import Derived.Lib.ItoaNum
import Derived.Scope
set_option linter.all false
set_option maxHeartbeats 8000000
namespace Go.V
open Go.RowKit (Below)
section
variable{P:Program}{w0:Base}{G:List Nat}{M:Imm}{ρ:Ren}{h:Heap}{w:World}{nid:Nat}
variable{n:Nat}
theorem Zk(a:n<=lim):fits .i64 (n:Int):=by
 rw[oR];unfold lim at a;simp[IntKind.min,IntKind.max,IntKind.signed,IntKind.bits];omega
variable{x d:D}{vx:Value}
def zAm(g:Sim w0 G M ρ h w){t ty:TypeId}(i:rel M ρ x vx)(a:mC P t x h=some d):YV P w0 G M ρ nid w (Builtin.len_ #[t] ty #[vx]) d h:=by
 unfold mC at a;split at a
 ·split at a
  ·rename_i c;cases a;obtain⟨b,rfl,rfl,f⟩:=i;refine .pure g (v:=.int .i64 b.size) (by simp[Builtin.len_,zU c,goInt]) ?_;exact uM (Zk f)
  ·cases a
 ·split at a
  ·rename_i e c;cases a;obtain⟨_,f,b,p,cap,⟨k,rfl,j⟩,_⟩:=i;exact .pure g (by simp[Builtin.len_,zU c];rfl) (uM (Zk f))
  ·cases a
 ·split at a
  ·rename_i e c;cases a;obtain⟨_,f,l,cap,o,_,rfl,_⟩:=i;exact .pure g (by simp[Builtin.len_,zU c];rfl) (uM (Zk f))
  ·cases a
 ·split at a
  ·rename_i e c;cases a;subst i;exact .pure g (by simp[Builtin.len_,zU c];rfl) (uM (Zk (by simp)))
  ·cases a
 ·split at a
  ·rename_i e c;cases a;subst i;exact .pure g (by simp[Builtin.len_,zU c];rfl) (uM (Zk (n:=0) (by simp)))
  ·cases a
 ·cases a
variable{y:D}{vy:Value}
def zAn(f:Sim w0 G M ρ h w){t ty:TypeId}(ats)(g:rel M ρ x vx)(i:rel M ρ y vy)(c:KS x y=some d):YV P w0 G M ρ nid w (Builtin.min_ ats ty #[vx,vy]) d h:=by
 unfold KS at c;split at c
 ·rename_i k a k' b;split at c
  ·rename_i e;subst e;cases c;obtain⟨rfl,j⟩:=g;obtain⟨rfl,l⟩:=i;refine .pure f (v:=.int k (if b<a then b else a)) (by simp[Builtin.min_,Builtin.min2]) (uM ?_)
   split<;>assumption
  ·cases c
 ·cases c
def FK(f:rel M ρ x vx)(g:rel M ρ y vy)(c:Fa x y=some d):∃v,(Builtin.max2 vx vy).run P w=.ok v w/\rel M ρ d v:=by
 unfold Fa at c;split at c
 ·rename_i k a k' b;split at c
  ·rename_i e;subst e;cases c;obtain⟨rfl,h⟩:=f;obtain⟨rfl,i⟩:=g;refine⟨.int k (if b>a then b else a),by simp[Builtin.max2],uM ?_⟩
   split<;>assumption
  ·cases c
 ·cases c
theorem MV:∀{ys:List D}{vs:List Value}{x d:D}{b:Value},rel M ρ x b->wJ M ρ ys vs->P9 x ys=some d->∃v,(vs.foldlM Builtin.max2 b).run P w=.ok v w/\rel M ρ d v
 | [],vs,x,d,b,c,e,a=>by simp_all [wJ,P9,uD]
 |y::ys,vs,x,d,b,c,e,a=>by
  obtain⟨v,i,rfl,h1,g⟩:=e;simp only[P9]at a;split at a
  ·rename_i z h;obtain⟨u,j,f⟩:=FK (P:=P) (w:=w) c h1 h;obtain⟨m,k,l⟩:=MV f g a
   simp_all [List.foldlM_cons]
  ·cases a
variable{vs:List Value}
def FQ(b:Sim w0 G M ρ h w){ty:TypeId}{ys:List D}(ats)(e:rel M ρ x vx)(f:wJ M ρ ys vs)(c:P9 x ys=some d):YV P w0 G M ρ nid w (Builtin.max_ ats ty (vx::vs).toArray) d h:=by
 obtain⟨v,h1,a⟩:=MV (P:=P) (w:=w) e f c;exact .pure b (by simpa [Builtin.max_]using h1) a
variable{w':World}
def Sim.immLater(d:Sim w0 G M ρ h w)(q:Bel w.heap.size w w'){b:Nat}(f:w.heap.size<=b){c:Array Value}{e:TypeId}{p:Nat×Nat}(r:w'.heap[b]? =some (.cells c e p))(n:Nat):
  MLe M (kP M b 0 (c.toList.take n))/\Sim w0 G (kP M b 0 (c.toList.take n)) ρ h w':=by
 have s:∀o,M b o=none:=d.none_at f;have g:MLe M (kP M b 0 (c.toList.take n)):=jP λo _=>s o;have j:=d.world q;refine⟨g,{ below:=j.below,imm:=λb' o v a=> ?_,live:=λi t a=> ?_,apart:=d.apart,gdef:=j.gdef,old:=Xl d.old (d.nokeep f) }⟩
 ·unfold kP at a;split at a
  ·rename_i k;obtain⟨rfl,_,m⟩:=k;simp only[sY,yF]at a;split at a
   ·simp[World.cell?,r];simpa using a
   ·cases a
  ·exact j.imm b' o v a
 ·obtain⟨l,h1,m,h3⟩:=j.live i t a;have u:=d.old_blk a h1;refine⟨l,h1,m,rg g (RLe.refl _) (λo x=> ?_) h3⟩
  grind [kP]
variable{M:Imm}{ρ:Ren}
theorem Yo:∀{ds:List D}{s:List UInt8}{vs:List Value},o5 ds=some s->wJ M ρ ds vs->∃b:List Int,vs=b.map (Value.int .u8)/\s=b.map λn=>UInt8.ofNat n.toNat
 | [],s,vs,a,hr=>by simp_all [o5,uD,wJ]
 |d::ds,s,vs,a,hr=>by
  obtain⟨v,f,rfl,h1,e⟩:=hr;simp only[o5]at a;split at a
  ·rename_i k n;split at a
   ·split at a
    ·rename_i g c;cases a;obtain⟨b,rfl,rfl⟩:=Yo c e;exact⟨n::b,by rw[h1.1];rfl,rfl⟩
    ·cases a
   ·cases a
  ·cases a
def FW{m:Int}(h:fits .u8 m):(((UInt8.ofNat m.toNat).toNat:Nat):Int)=m:=by
 have h1:=(oR .u8 m).1 h;simp[IntKind.min,IntKind.max,IntKind.signed,IntKind.bits]at h1;simp;omega
theorem C5:∀{ds:List D}{s:List UInt8}{j:Nat}{d:D}{m:Int},o5 ds=some s->ds[j]? =some d->rel M ρ d (.int .u8 m)->fits .u8 m
 | [],s,j,d,m,_,h,_=>by simp at h
 |e::ds,s,0,d,m,a,h,hr=>by
  simp only[o5]at a
  grind [rel]
 |e::ds,s,j+1,d,m,a,h,hr=>by
  simp only[o5]at a;split at a
  ·split at a
   ·split at a
    ·rename_i c b;exact C5 b h hr
    ·cases a
   ·cases a
  ·cases a
theorem VS:∀(a:List Int)(b:ByteArray),(a.foldl (λr n=>r.push (UInt8.ofNat n.toNat)) b).data.toList=b.data.toList++a.map λn=>UInt8.ofNat n.toNat
 | [],b=>by simp
 |n::a,b=>by
  rw[List.foldl_cons,VS a];simp[ByteArray.push]
variable{u T:TypeId}
theorem Pw(H:Sim w0 G M ρ h w)(j:rel M ρ x vx)(a:nR P u T x=some d):YV P w0 G M ρ nid w (Go.convert u T vx) d h:=by
 unfold nR at a;split at a
 ·rename_i k n;split at a
  ·rename_i k0 g;split at a
   ·rename_i k' f;cases a;simp only[rel]at j;obtain⟨rfl,_⟩:=j;exact .pure H (v:=.int k' (k'.wrap n)) (by simp[Go.convert,zU g,zU f,Conv.intToInt]) (uM (rt _ _))
   ·cases a
  ·cases a
 ·rename_i s;split at a
  ·rename_i g;split at a
   ·rename_i f;cases a;have Q:=j;simp only[rel]at j;obtain⟨b,rfl,_,_⟩:=j;exact .pure H (v:=.string b) (by simp[Go.convert,zU g,zU f]) Q
   ·rename_i e f;split at a
    ·rename_i y;cases a;simp only[rel]at j;obtain⟨b,rfl,rfl,K⟩:=j
     let cap:=grownCap w b.size 0 e
     let c:Array Value:=(b.data.map λx=>Value.int .u8 x.toNat)++Array.replicate (cap-b.size) (.int .u8 0)
     let S:=(w.drew.alloc (.cells c e)).freeze ⟨w.heap.size,c.size,none⟩ 1
     have t:b.size=b.data.toList.length:=by rw[yQ];rfl
     have E:b.size<=cap:=XP w b.size 0 e;have l:(Go.convert u T (.string b)).run P w=.ok (.slice (some ⟨w.heap.size,0,none⟩) b.size cap) S:=by
      have h1:(Go.convert u T (.string b)).run P w=(Conv.stringToBytes e b).run P w:=by
       simp[Go.convert,zU g,zU f,zU y]
      have L:(w.drew.alloc (.cells c e)).shape? w.heap.size=some (e,c.size):=by
       have:(w.drew.alloc (.cells c e)).heap[w.heap.size]? =some (.cells c e (0,0)):=by
        show(w.heap.push _)[w.heap.size]? =_;simp
       unfold World.shape?;rw[this]
      rw[h1];simp only[Conv.stringToBytes,zx,run_choose,Question.forced,zl,yy,zX,newRow,ZJ,kF,World.drew_eq,yN,markStringish,run_shape];rw[show((Question.appendCap b.size 0 e).cut (w.tape w.drawn (Question.appendCap b.size 0 e)))=cap from rfl]
      rw[show(w.drew.heap.size)=w.heap.size from rfl]
      rw[show((b.data.map λx=>Value.int .u8 x.toNat)++Array.replicate (cap-b.size) (.int .u8 0))=c from rfl,L]
      rfl
     have A:(w.heap.push (Go.Obj.cells c e))[w.heap.size]? =some (.cells c e (0,0)):=by simp
     have z:S.heap[w.heap.size]? =some (.cells c e (c.size,c.size+1)):=by
      show((w.heap.push (Go.Obj.cells c e)).modify w.heap.size _)[w.heap.size]? =_;rw[rV,ip rfl,A];rfl
     have D:Bel w.heap.size w S:=⟨⟨rfl,rfl,rfl,by show _<=((w.heap.push (Go.Obj.cells c e)).modify w.heap.size _).size;simp,λk hk=>by
      show((w.heap.push (Go.Obj.cells c e)).modify w.heap.size _)[k]? =_;rw[rV,iq ow,Array.getElem?_push,iq ow]⟩,Nat.le_succ _⟩
     obtain⟨k1,k2⟩:=H.immLater D (zD _) z b.size;refine⟨_,_,_,ρ,l,k1,RLe.refl _,λ_ _=>rfl,k2,?_⟩;simp only[rel];refine⟨by omega,by simpa using K,w.heap.size,0,cap,by rw[zG,<-t];exact Ii.mk _ _ _ _,by rw[zG,<-t];exact E,nF λi x j=> ?_,trivial⟩;simp only[zj,zh]at j;obtain⟨q,X,rfl⟩:=j;refine⟨rfl,?_⟩;simp only[kQ,zV];refine⟨rfl,.int .u8 q.toNat,?_,?_⟩
     ·have:=V3 (M:=M) (b:=w.heap.size) (p:=0) (vs:=c.toList.take b.size) (i:=i) (v:=.int .u8 q.toNat) (by
       have F:i<b.size:=by rw[t];exact(zK.1 X).1
       rw[yF,ip F];simp only[c,mZ,ua];rw[yg (by simp;exact F),zj,X];rfl)
      simpa using this
     ·refine uM ?_;rw[oR];have:=q.toNat_lt;simp[IntKind.min,IntKind.max,IntKind.signed,IntKind.bits];omega
    ·cases a
   ·cases a
  ·cases a
 ·rename_i sz xs tk;split at a
  ·rename_i e g;split at a
   ·rename_i y;split at a
    ·rename_i f;split at a
     ·rename_i O;subst O;split at a
      ·rename_i s I;cases a;simp only[rel]at j;obtain⟨_,W,b,p,cap,⟨R,rfl,N⟩,J,hE,_⟩:=j;obtain⟨hC,V⟩:=l7 hE;have C:∀(o:List Int),s=o.map (λn=>UInt8.ofNat n.toNat)->o.length<=lim->(Go.loadCells ⟨b,p,R⟩ xs.length).run P w=.ok (o.map (Value.int .u8)).toArray w->YV P w0 G M ρ nid w (Go.convert u T (.slice (some ⟨b,p,R⟩) xs.length cap)) (.str s) h:=λo m K l=>by
        have B:=run_bytesToString (P:=P) w ⟨b,p,R⟩ xs.length cap o l;refine .pure H (v:=.string (o.foldl (λr n=>r.push (UInt8.ofNat n.toNat)) ByteArray.empty)) ?_ ?_
        ·rw[run_convert_bytes_string w u T e _ _ _ g y f,B]
        ·simp only[rel];exact⟨_,rfl,by rw[VS,m];rfl,by rw[m,zG];exact K⟩
       rcases N with rfl|rfl
       case inr=>
        obtain rfl:xs= []:=yY ow;simp only[List.flatten_nil,o5,uD]at I;subst I;exact C [] rfl (by simp) (by simp[Go.loadCells,loadCellsFrom])
       obtain⟨vs,Y,Z,U,_⟩:=(H.holds hC).loadCells (P:=P) (off:=0) (n:=xs.length) ow;rw[wb,yV ow]at U;obtain⟨o,rfl,m⟩:=Yo I U;rw[zG]at Y;exact C o m ow Z
      ·cases a
     ·cases a
    ·cases a
   ·cases a
  ·cases a
 ·cases a
def In(o:Sim w0 G M ρ h w){m dst:TypeId}(s:rel M ρ x vx)(a:aL P m dst x h=some d):YV P w0 G M ρ nid w (Go.convert m dst vx) d h:=by
 unfold aL at a;split at a
 ·rename_i id off;split at a
  ·have k:=s;obtain⟨l,A,rfl⟩:=s;unfold HD at a;split at a
   ·rename_i u full cs z;split at a
    ·obtain⟨E,v,_,hM,c,D,C,B,y,n,r,g⟩:=o.live id _ z;rw[A]at v;cases v;have q:=g rfl;have i:w.shape? l.blk=some (u,cs.length):=by simp[World.shape?,C,r,q]
     split at a
     ·rename_i t e;split at a
      ·rename_i b;split at a
       ·rename_i j p;split at a
        ·rename_i f;simp only[zF,zO]at f;cases a;exact .pure o (Go.Lib.run_to_unsafe (P:=P) (w:=w) ⟨l.blk,0,none⟩ e b p f.1 i f.2) k
        ·cases a
       ·cases a
      ·cases a
     ·rename_i e;split at a
      ·rename_i t b;split at a
       ·rename_i j p;split at a
        ·rename_i f;cases a;exact .pure o (Go.Lib.run_from_unsafe (P:=P) (w:=w) ⟨l.blk,0,none⟩ e b p i f) k
        ·cases a
       ·cases a
      ·cases a
     ·cases a
    ·cases a
   ·cases a
  ·cases a
 ·exact Pw o s a
theorem Yn:∀{ds:List D}{s:List UInt8},o5 ds=some s->s.length=ds.length
 | [],s,h=>by grind [o5]
 |d::ds,s,h=>by
  simp only[o5]at h;split at h
  ·split at h
   ·split at h
    ·rename_i b a;cases h;rw[zm,zm,Yn a]
    ·cases h
   ·cases h
  ·cases h
variable{id:Nat}{ob:Obj}{l:Loc}
def Sim.drop(a:Sim w0 G M ρ h w)(r:h.at' id=some ob)(t:ρ id=some l)(y:w'.os=w.os)(z:w'.tape=w.tape)(A:w'.output=w.output)(n:w'.heap.size=w.heap.size)(k:∀b,b≠l.blk->w'.heap[b]? =w.heap[b]?)(hM:∀o,M l.blk o=none)(E:∀d,w.heap[l.blk]? ≠some (.deferred d))(m:w.drawn<=w'.drawn:=by exact zD _):
  Sim w0 G M ρ (h.del id) w':=by
 obtain⟨F,p,u,D⟩:=a.live id ob r;rw[t]at p;cases p;refine { below:=⟨by rw[y];exact a.below.os,by rw[z];exact a.below.tape,by rw[A];exact a.below.output,by rw[n];exact a.below.size,λb s=>by rw[k b λe=>u (e▸s)];exact a.below.block b s,zf a.below.drawn m⟩,imm:=λb o v e=> ?_,live:=λi g e=> ?_,apart:=λi j g C f B e1 e2=> ?_,gdef:=λb x=> ?_,old:=a.old }
 ·have c:b≠l.blk:=λq=>by subst q;rw[hM o]at e;cases e
  have:=a.imm b o v e;rw[<-this];exact wj (w:=w) (k b c)
 ·simp only[Heap.del]at e;split at e
  ·cases e
  ·rename_i c;obtain⟨f,k1,k2,k3⟩:=a.live i g e;exact⟨f,k1,k2,se (k _ λq=>c (a.apart i id g ob f l e r k1 t q)) k3⟩
 ·simp only[Heap.del]at e1 e2;split at e1
  ·cases e1
  ·split at e2
   ·cases e2
   ·exact a.apart i j g C f B e1 e2
 ·obtain⟨k1,k2⟩:=a.gdef b x
  grind
variable{h':Heap}
theorem Pz(J:Sim w0 G M ρ h w){t u ty e:TypeId}{n:Int}(C:ρ id=some l)(I:P.underlying t=some (.pointer e))(U:fits .i64 n)(g:Yf P e id n h=some (d,h')):YV P w0 G M ρ nid w (Builtin.unsafeString_ #[t,u] ty #[.pointer (some ⟨l.blk,0,none⟩),.int .i64 n]) d h':=by
 unfold Yf at g;split at g
 ·rename_i e2 full cs B;split at g
  ·rename_i N;simp only[zF,zO]at N;obtain⟨⟨⟨⟨A,x⟩,Y⟩,Z⟩,E⟩:=N;subst A;split at g
   ·rename_i s i;cases g;obtain⟨l',L,g2,hM,c,S,Q,W,O,y,K,_⟩:=J.live id _ B;rw[C]at L;cases L;subst K;have r:s.length=n.toNat:=by rw[Yn i,yR];omega
    obtain⟨vs,q1,q2,R,_,q5⟩:=(J.trow B C).loadCells (P:=P) (off:=0) (n:=n.toNat) ow;obtain⟨ns,rfl,H⟩:=Yo i R;have k:∀m∈ns,fits .u8 m:=λm X=>by
     obtain⟨j,V,rfl⟩:=yD.1 X;have o:j<(cs.take n.toNat).length:=by grind
     obtain⟨v,r1,r2⟩:=sF R j (cs.take n.toNat)[j] (zB o);rw[zj,zB V]at r1;cases r1;exact C5 i (zB o) r2
    have T:n<=9223372036854775807:=by simp_all [oR]
    have a:=Go.Lib.run_unsafeString_row (P:=P) w t u ty S I x l.blk c.size (by simp[World.shape?,Q]) s (λq=>by rw[q]at r;simp at r;omega) ow ow (λj b z=>by
     rw[H,zj]at z;obtain⟨m,p,D⟩:=zh.1 z;have:=q5 j (.int .u8 m) (by rw[zj,p];rfl);rw[tm];rw[this,<-D,FW (k m (zg p))])
    have F:(s.length:Int)=n:=ow;rw[F]at a;obtain⟨f,hf⟩:∃f,w.freeze ⟨l.blk,0,none⟩ s.length= { w with heap:=w.heap.modify l.blk f } :=by
     unfold World.freeze;split
     all_goals grind
    rw[hf]at a;refine⟨_,_,M,ρ,a,MLe.refl _,RLe.refl _,λ_ _=>rfl,J.drop B C rfl rfl rfl (by simp) (λb z=> ?_) hM (λdd q=>by rw[Q]at q;cases q),?_⟩
    all_goals grind [rel]
   ·cases g
  ·cases g
 ·cases g
theorem TA(b:Sim w0 G M ρ h w){t u ty e:TypeId}(a:P.underlying t=some (.pointer e)):YV P w0 G M ρ nid w (Builtin.unsafeString_ #[t,u] ty #[.pointer none,.int .i64 0]) (.str []) h:=by
 refine .pure b (v:=.string ⟨#[]⟩) ?_ (by simp only[rel];exact⟨⟨#[]⟩,rfl,rfl,by decide⟩);rfl
def TB(b:Sim w0 G M ρ h w){t u ty:TypeId}(c:rel M ρ x vx)(e:rel M ρ y vy)(a:jF P t x y h=some (d,h')):YV P w0 G M ρ nid w (Builtin.unsafeString_ #[t,u] ty #[vx,vy]) d h':=by
 unfold jF at a;split at a
 all_goals grind [rel,Pz,TA]
def YC(t u ty e:TypeId)(v:P.underlying t=some (.slice e)){k:IntKind}(y:P.underlying u=some (.int k)){i:TypeInfo}{z:Value}(g:P.info? e=some i)(A:i.zero=some z)(m:Nat)(h:0<m)(n:i.size≠0)(a:m<=lim)(r:m*i.bytes<=lim):
  (Builtin.append_ #[t,u] ty #[.slice none 0 0,.int .i64 (m:Int)]).run P w=.ok (.slice (some ⟨w.heap.size,0,none⟩) m (grownCap w m 0 e))
   (w.drew.alloc (.cells (Builtin.zeroCells z.cells m++Builtin.zeroCells z.cells (grownCap w m 0 e-m)) e)):=by
 have c:¬(9223372036854775807<(m:Int)):=by unfold lim at a;omega
 have s:=growslice_fits (need:=m) (old:=0) (bytes:=i.bytes) h r;have b:¬(281474976710656<Builtin.nextslicecap m 0*i.bytes):=ow;have o:(sizeOf e).run P w=.ok i.size w:=by rw[run_sizeOf _ g];simp[Program.cellsOf,g]
 have p:IntKind.i64.wrap (m:Int)=(m:Int):=Zk a;have d:¬((m:Int)<0):=ow;have f:¬(281474976710656<(m:Int)*(i.bytes:Int)):=by
  have:((m*i.bytes:Nat):Int)<=(lim:Int):=by exact_mod_cast r
  rw[ma]at this;generalize(m:Int)*(i.bytes:Int)=x at this⊢;unfold lim at this;omega
 have l:¬(m*i.size=0):=λq=>by
  rcases Nat.mul_eq_zero.1 q with q|q<;>omega
 have j:¬m=0:=ow;simp[Builtin.append_,zU v,zU y,o,typeInfo,zeroValue,g,A,asInt,asIntOf,p,d,f,l,j,c,b,n,Question.forced,newRow,grownCap,Builtin.firstCells]
def Pt(W:Sim w0 G M ρ h w)(K:ρ nid=none){mu:Bool}{t u ty:TypeId}{s x d:D}(O:rel M ρ s vy)(hx:rel M ρ x vx)
  (a:mR P mu nid t u s x h=some (d,h')):YV P w0 G M ρ nid w (Builtin.append_ #[t,u] ty #[vy,vx]) d h':=by
 unfold mR at a;split at a
 ·rename_i kk hu;split at a
  ·rename_i e Y;split at a
   ·split at a
    ·rename_i k0 n;split at a
     ·split at a
      ·rename_i z hz;split at a
       ·rename_i c;simp only[zF,zO]at c;obtain⟨⟨⟨⟨⟨⟨Z,R⟩,C⟩,y⟩,ad⟩,E⟩,f⟩:=c;cases a;obtain⟨i,b,l,S,v,Q⟩:=oC (P:=P) (M:=M) (ρ:=ρ) (w:=w) hz;subst O;obtain⟨rfl,_⟩:=hx;have A:=s9 v;have B:=pE v R;have U:i.size=szT P e:=by simp[szT,Program.cellsOf,l]
        have I:i.bytes=uE P e:=by simp[uE,Program.bytesOf,l]
        have L:(n:Int)=((n.toNat:Nat):Int):=ow;generalize hm:n.toNat=m at *
        have J:0<m:=ow;subst L;have r:=YC (P:=P) (w:=w) t u ty e (rG Y) hu l S m J ow f (by rw[I];exact E);have H:=XP w m 0 e;have g:b.cells.size=szT P e:=by have:=qI A;rw[C]at this;simpa using this
        have V:(lV m z.cells).length=m*szT P e:=by rw[lV,uG,C]
        have N:=bl A m;have X:Builtin.zeroCells b.cells m=(Array.range (m*szT P e)).map (b.cells[· %b.cells.size]!):=by unfold Builtin.zeroCells;rw[g]
        have F:(Builtin.zeroCells b.cells m++Builtin.zeroCells b.cells (grownCap w m 0 e-m)).size=grownCap w m 0 e*szT P e:=by
         rw[Array.size_append,df,df,g,<-wD];congr 1;omega
        have o:(lV m z.cells).length<=(Builtin.zeroCells b.cells m++Builtin.zeroCells b.cells (grownCap w m 0 e-m)).size:=by grind
        have hr:wJ M ρ (lV m z.cells) ((Builtin.zeroCells b.cells m++Builtin.zeroCells b.cells (grownCap w m 0 e-m)).toList.take (lV m z.cells).length):=by grind
        have k:m<=grownCap w m 0 e/\grownCap w m 0 e<=maxLen:=⟨H,grownCap_le_maxLen w m 0 e (by unfold maxLen;unfold lim at f;omega)⟩;have j:∀T,Sim w0 G M (nj ρ nid ⟨w.drew.heap.size,0,(Builtin.zeroCells b.cells m++Builtin.zeroCells b.cells (grownCap w m 0 e-m)).size⟩) (h.new nid T) (w.drew.alloc (.cells (Builtin.zeroCells b.cells m++Builtin.zeroCells b.cells (grownCap w m 0 e-m)) e))->
          YV P w0 G M ρ nid w (Builtin.append_ #[t,u] ty #[.slice none 0 0,.int .i64 (m:Int)]) (.rs nid (szT P e) 0 m) (h.new nid T):=λT p=>by
         refine⟨_,_,M,_,r,MLe.refl _,tQ K,λi l=>by simp[nj,kx l],p,?_⟩;exact⟨y,f,_,grownCap w m 0 e,0,by unfold nj;rw[ip rfl],rfl,k,by show 0+grownCap w m 0 e*szT P e<=(Builtin.zeroCells b.cells m++Builtin.zeroCells b.cells (grownCap w m 0 e-m)).size;rw[F,yZ];exact zD _,.inr rfl⟩
        rcases Zq P e (lV m z.cells)with q|q
        ·rw[q];exact j _ (W.drew.newRow K e o hr (kp B _))
        ·rw[q];exact j _ (W.drew.newTRow K e false o (λq=>by cases q) hr (kp B _))
       ·cases a
      ·cases a
     ·cases a
    ·cases a
   ·cases a
  ·cases a
 ·cases a
variable{t:TypeId}
def U9(N:Sim w0 G M ρ h w)(L:ρ nid=none){mu:Bool}{l c d:D}(W:rel M ρ l vx)(T:rel M ρ c vy)(j:tW P mu nid t l c h=some (d,h')):
  YV P w0 G M ρ nid w (Instr.makeSlice t vx vy) d h':=by
 unfold tW at j;split at j
 ·rename_i e k1 n k2 n' U;obtain⟨rfl,_⟩:=W;obtain⟨rfl,_⟩:=T;split at j
  ·rename_i z hz;obtain⟨i,p,B,ad,v,s⟩:=oC (P:=P) (M:=M) (ρ:=ρ) (w:=w) hz;simp only at j;split at j
   ·rename_i g;simp only[zF,zO]at g;obtain⟨⟨⟨⟨⟨⟨K,r⟩,o⟩,X⟩,H⟩,S⟩,b⟩:=g;subst H;have J:=s9 v;have A:=pE v K;have a:=bl J n.toNat;rw[r]at a;have I:(((Array.range (n.toNat*szT P e)).map (p.cells[· %p.cells.size]!)):Array Value).size=n.toNat*szT P e:=by simp
    have k:(lV n.toNat z.cells).length=n.toNat*szT P e:=by rw[lV,uG,r]
    have Y:IntKind.i64.wrap n=n:=by have:=Zk (n:=n.toNat) b;rw[show((n.toNat:Nat):Int)=n by omega]at this;exact this
    have m:(Instr.makeSlice t (.int k1 n) (.int k2 n)).run P w=.ok (.slice (some ⟨w.heap.size,0,none⟩) n.toNat n.toNat) (w.alloc (.cells ((Array.range (n.toNat*szT P e)).map (p.cells[· %p.cells.size]!)) e)):=by
     have E:(typeInfo e).run P w=.ok i w:=by simp[typeInfo,B]
     have V:i.bytes=uE P e:=by simp[uE,Program.bytesOf,B]
     have R:¬((i.bytes:Int)*n>2^48):=by grind [uE,lim]
     have q:(Instr.makeSlice t (.int k1 n) (.int k2 n)).run P w=.ok (.slice (some ⟨w.heap.size,0,none⟩) n.toNat n.toNat) (w.alloc (.cells ((Array.range (n.toNat*szT P e)).map (p.cells[· %p.cells.size]!)) e)):=by
      unfold Instr.makeSlice;simp only[zx,zU (rG U),zX,asInt,asIntOf,yN,E,Y];have F:((decide (n<0)||decide ((i.bytes:Int)*n>2^48))||decide (n<0)||decide (n>n))=false:=by grind
      simp only[F,zl,yy,zx,run_askRoom,zX,wG (P:=P) (w:=w) (t:=e) ow];by_cases y:n.toNat*szT P e=0
      ·have C:∀f:Nat->Value,(Array.range 0).map f= #[]:=λf=>by simp
       simp only[y,qS,zx,yN,zX,C,newRow,ZJ,kF]
      ·simp only[y,yy,zx,s,yN,zX,newRow,ZJ,kF]
     exact q
    split at j
    ·cases j;have u:=N.newRow L e (ds:=lV n.toNat z.cells) (c:=(Array.range (n.toNat*szT P e)).map (p.cells[· %p.cells.size]!)) ow (by rw[k,yV (by simp)];exact a) (kp A _);refine⟨_,_,M,_,m,MLe.refl _,tQ L,λi B=>by simp[nj,kx B],u,?_⟩;exact⟨o,b,_,n.toNat,0,by simp[nj];rfl,rfl,⟨zD _,by unfold maxLen;unfold lim at b;omega⟩,by simp,.inr rfl⟩
    ·cases j;obtain⟨O,Q,g3⟩:=N.newImmRow (n:=n.toNat) e o b k a (kp A _);refine⟨_,_,_,ρ,m,O,RLe.refl _,λ_ _=>rfl,Q,?_⟩
     have:wR (szT P e) n.toNat (lV n.toNat z.cells)=List.replicate n.toNat z.cells:=by
      have:=mK (szT P e) (List.replicate n.toNat z.cells) [] 0 (λx Z=>by rw[(List.mem_replicate.1 Z).2,r]);simpa [wR,lV]using this
     grind
   ·cases j
  ·cases j
 ·cases j
def Im(g:Sim w0 G M ρ h w){t ty:TypeId}(s:rel M ρ x vx)(a:dp P t x h=some h'):
  ∃J,(Builtin.clear_ #[t] ty #[vx]).run P w=.ok (.tuple #[]) J/\Sim w0 G M ρ h' J:=by
 unfold dp at a;split at a
 ·split at a
  ·rename_i e c;cases a;subst s;exact⟨w,by simp[Builtin.clear_,zU c],g⟩
  ·cases a
 ·rename_i sz xs tk;split at a
  ·rename_i e c;split at a
   ·rename_i D;cases a;obtain⟨_,_,b,p,cap,⟨sp,rfl,X⟩,_⟩:=s;rw[D];exact⟨w,by simp[Builtin.clear_,zU c],g⟩
   ·cases a
  ·cases a
 ·rename_i id sz off n;split at a
  ·cases a
  ·rename_i e T;have c:=rG T;split at a
   ·cases a
   ·rename_i z Y;obtain⟨h0,Q,l,cap,o,r,rfl,N,C,ho⟩:=s;split at a
    ·rename_i R;cases a;subst R;exact⟨w,by simp[Builtin.clear_,zU c],g⟩
    ·rename_i R;split at a
     ·rename_i L;simp only[zF,zO]at L;obtain⟨I,F⟩:=L;split at a
      ·rename_i cs q;split at a
       ·rename_i W;obtain⟨i,u,U,V,k,j⟩:=oC (M:=M) (ρ:=ρ) (w:=w) Y;obtain rfl:o=off:=ow;have m:=s9 k;have E:=pE k I;have f:=bl m n;have O:(lV n z.cells).length=n*sz:=by rw[lV,uG,F]
        obtain⟨J,g1,g2⟩:=g.storeRow (P:=P) (off:=o) q r f (kp E n) ow;have H:u.cells.size=z.cells.length:=by have:=qI m;simpa using this
        have hq:(Builtin.zeroCells u.cells n).toList=((Array.range (n*z.cells.length)).map (u.cells[· %u.cells.size]!)).toList:=by
         unfold Builtin.zeroCells;rw[<-H]
        simp only[Builtin.clear_,t5,wK,zx,zU c,zX,j]
        simp_all
       ·cases a
      ·cases a
     ·cases a
 ·rename_i id;split at a
  ·rename_i kt et c;split at a
   ·rename_i es q;cases a;obtain⟨l,r,rfl⟩:=s;obtain⟨l',h1,A,Z,K,y,h3⟩:=g.live id _ q;rw[r]at h1;cases h1;have B:l.blk<w.heap.size:=by grind
    refine⟨{ w with heap:=w.heap.setIfInBounds l.blk (.map #[] K) },?_,?_⟩
    ·simp[Builtin.clear_,zU c,getObj,setObj,Sem.run,y]
    ·refine g.put q r rfl rfl rfl (by simp) (λb S=>by simp only[tL];rw[iq (λe=>S e.symm)]) (λo v e=> ?_) ⟨_,y,λd=>by simp⟩ ⟨#[],K,by simp[B],by simp[pa]⟩;have:=g.imm _ _ _ e;simp[World.cell?,y]at this
   ·cases a
  ·cases a
 ·cases a
end
section
variable{P:Program}{w0:Base}{G:List Nat}{M:Imm}{ρ:Ren}{h:Heap}{w:World}{nid:Nat}
theorem lH{d k : Nat}{j : Bool}(G : ∀(t : TypeId)(ks : List Kd)(ag : Bool), pK P d t = some ks -> agT P t = some ag -> ∀(s : D)(I : Value), yz ag s = true -> rel M ρ s I ->
      (eqK ks s.cells s.cells).isSome = true -> (Instr.checkKey j (d + k) t I).run P w =.ok () w) :
    ∀(fs : List Field)(off n : Nat)(ks : List Kd), XW (pK P d) P.cellsOf fs off n = some ks -> ∀(as : List D)(xs : Array Value), wJ M ρ as xs.toList -> as.all D.flat = true -> (eqK ks (as.drop off) (as.drop off)).isSome = true ->
      (forIn (m := Sem) fs PUnit.unit λf _ => do
        if f.name ≠ "_" then do
          Instr.checkKey j (d + k) f.type (<- part f.type xs f.offset)
          pure (ForInStep.yield PUnit.unit)
        else pure (ForInStep.yield PUnit.unit)).run P w =.ok PUnit.unit w
  | [], _, _, _, _, _, _, _, _, _ => by simp
  | f :: fs, off, n, ks, g, as, xs, x, u, Q => by
    simp only [XW]at g;split at g
    · rename_i b
      simp only [zF, fX, ne_eq, qN]at b;obtain ⟨⟨A, o⟩, B⟩ := b;split at g
      · rename_i h a
        split at g
        · rename_i c
          simp only [qN]at c;simp only [zh]at g;obtain ⟨T, y, rfl⟩ := g;obtain ⟨r, hr⟩ := uC.1 Q;obtain ⟨r1, r2, h1, F, _⟩ := ke hr;obtain ⟨ag, e⟩ : ∃ ag, agT P f.type = some ag := by
            cases hd : d with
            | zero => rw [hd]at a; simp [pK]at a
            | succ V =>
              rw [hd]at a;unfold pK at a;unfold agT;cases hu : P.underlying f.type with
              | none => rw [hu]at a; cases a
              | some td => cases td <;> simp
          have R := (o8 h1).1;have E : szT P f.type = h.length := c.symm;have cell : ∃ v i, (part f.type xs f.offset).run P w =.ok v w /\ rel M ρ i v /\ yz ag i = true /\ i.cells = (as.drop off).take h.length := by
            rw [o];cases ag with
            | true =>
              have z : off + h.length <= as.length := by grind
              obtain ⟨v, J, K⟩ := dB (w := w) e x u (off := off) (d :=.agg ((as.drop off).take h.length)) (by simp only [yW, qS, E]; rw [iq (by rw [c]; exact B), ip z]);exact ⟨v, _, J, K, rfl, rfl⟩
            | false =>
              obtain ⟨H, rfl⟩ := lx a e;have l : off < as.length := by grind
              have p : (as.drop off).take [H].length = [as[off]] := by rw [t6, yf l, pq, kD]
              obtain ⟨v, J, K⟩ := dB (w := w) e x u (off := off) (d := as[off]) (by simp [yW, l]);have S : yz false as[off] = true /\ as[off].cells = [as[off]] := by
                rw [p]at h1;generalize as[off] = q at h1 ⊢;cases H <;> cases q <;> simp [eqK, yz, D.cells]at h1 ⊢
              grind
          obtain ⟨v, i, U, L, N, O⟩ := cell;have W := G f.type h ag a e i v N L (by rw [O, h1]; rfl);have C := lH G fs (off + h.length) n T y as xs x u (by rw [uN]at F; rw [F]; rfl)
          simp_all [List.forIn_cons]
        · cases g
      · cases g
    · cases g
theorem fF(c : Bool)(k : Nat) : ∀(d : Nat)(t : TypeId)(ks : List Kd)(ag : Bool), pK P d t = some ks -> agT P t = some ag -> ∀(b : D)(j : Value), yz ag b = true -> rel M ρ b j ->
      (eqK ks b.cells b.cells).isSome = true -> (Instr.checkKey c (d + k) t j).run P w =.ok () w
  | 0, t, ks, ag, h, _, _, _, _, _, _ => by simp [pK]at h
  | d + 1, t, ks, ag, h, a, b, j, o, n, m => by
    rw [show d + 1 + k = (d + k) + 1 by omega];unfold pK at h;unfold agT at a;cases hu : P.underlying t with
    | none => rw [hu]at h; cases h
    | some td =>
      rw [hu]at h a;cases td <;> simp only at h a <;> (try (cases h; done))
      all_goals first
        | (injection a with a; subst a
           simp only [Instr.checkKey, zx, zU hu, zX];rfl)
        | skip
      rename_i fs;injection a with a; subst a;split at h
      · cases h
      · cases b <;> simp [yz]at o
        rename_i as;obtain ⟨xs, rfl, g, f⟩ := n;have := lH (λp i e h1 l => fF c k d p i e h1 l) fs.toList 0 _ ks h as xs g f (by simpa [D.cells]using m);simp only [Instr.checkKey, zx, zU hu, zX]
        simp_all [Array.forIn_toList]
theorem lJ:∀{ks:List Kd}{as e:List D}{xs ys:List Value}{n:Nat},eqK ks as e=some true->wJ M ρ as xs->wJ M ρ e ys->(xs.zip ys).all (λp=>Instr.sameBits n p.1 p.2)=true
 | [],[],[],xs,ys,n,_,a,c=>by simp only[wJ]at a c;subst a c;rfl
 |.b::ks,.bool x::as,.bool y::e,xs,ys,n,h,a,c=>by
  simp only[eqK,zh]at h;obtain⟨q,h,d⟩:=h;simp only[zF]at d;simp only[wJ,rel]at a c;obtain⟨_,f,rfl,rfl,a⟩:=a;obtain⟨_,g,rfl,rfl,c⟩:=c;rw[d.2]at h;simp only[oJ,uv,zF];exact⟨by cases n<;>simpa [Instr.sameBits]using d.1,lJ h a c⟩
 |.i::ks,.int k x::as,.int k' y::e,xs,ys,n,h,a,c=>by
  simp only[eqK]at h;split at h
  ·rename_i m;subst m;simp only[zh]at h;obtain⟨q,h,d⟩:=h;simp only[zF]at d;simp only[wJ,rel]at a c;obtain⟨_,f,rfl,⟨rfl,_⟩,a⟩:=a;obtain⟨_,g,rfl,⟨rfl,_⟩,c⟩:=c;rw[d.2]at h;simp only[oJ,uv,zF];exact⟨by cases n<;>simpa [Instr.sameBits]using d.1,lJ h a c⟩
  ·cases h
 |.s::ks,.str x::as,.str y::e,xs,ys,n,h,a,c=>by
  simp only[eqK,zh]at h;obtain⟨q,h,d⟩:=h;simp only[zF]at d;simp only[wJ,rel]at a c;obtain⟨_,f,rfl,⟨l,rfl,rfl,_⟩,a⟩:=a;obtain⟨_,g,rfl,⟨j,rfl,rfl,_⟩,c⟩:=c;rw[d.2]at h;simp only[oJ,uv,zF];refine⟨?_,lJ h a c⟩
  have:(l==j)=true:=by rw[beq_toListBytes,uX,uX];exact d.1
  cases n<;>simpa [Instr.sameBits]using this
variable{t:TypeId}
def XV{ag:Bool}{ks:List Kd}(a:N3 P t=some (ag,ks)):pK P 8 t=some ks/\agT P t=some ag:=by grind [N3]
def Qi(ks:List Kd)(M:Imm)(ρ:Ren)(k:D)(es:List (D×D))(i0:Nat)(o:Option (Nat×Value)):Prop:=
 (o=none/\kJ ks k es=some none/\∀v,MG ks k v es=some (es++ [(k,v)]))\/
 (∃i k' d u,o=some (i0+i,u)/\es[i]? =some (k',d)/\rel M ρ d u/\eqK ks k.cells k'.cells=some true/\kJ ks k es=some (some d)/\∀v,MG ks k v es=some (es.set i (k,v)))
def Qi.later{ks:List Kd}{k k' d:D}{a:List (D×D)}{e:Nat}{o:Option (Nat×Value)}(h:Qi ks M ρ k a (e+1) o)(c:eqK ks k.cells k'.cells=some false):Qi ks M ρ k ((k',d)::a) e o:=by
 rcases h with⟨h1,b,h3⟩ | ⟨i,k2,f,u,h1,b,h3,g,h5,j⟩
 ·grind [kJ,MG,Qi,eqK]
 ·exact .inr ⟨i+1,k2,f,u,by rw[h1];congr 2;omega,by simpa using b,h3,g,by simp[kJ,c,h5],λv=>by simp[MG,c,j]⟩
variable{vx:Value}
theorem X4{td:TypeDesc}{ks:List Kd}{k:D}(a:∀(k':D)(j:Value)(b:Bool),rel M ρ k' j->yz false k'=true->eqK ks k.cells k'.cells=some b->Instr.sameNow td vx j=some b):
  ∀(f:List (D×D))(l:List MapEntry)(g:Nat),pa M ρ f l->(∀e∈f,yz false e.1=true)->(kJ ks k f).isSome=true->∃o,Instr.findNow td vx l g=some o/\Qi ks M ρ k f g o
 | [],l,g,hr,_,_=>by simp only[pa]at hr;subst hr;exact⟨none,rfl,.inl ⟨rfl,rfl,λv=>rfl⟩⟩
 |(k',d)::f,l,g,hr,i,h=>by
  obtain⟨e,m,rfl,h1,p,h3⟩:=hr;simp only[kJ]at h;cases c:eqK ks k.cells k'.cells with
  |none=>rw[c]at h;cases h
  |some b=>
   have n:=a k' e.key b h1 (i (k',d) (by simp)) c;cases b with
   |true=>exact⟨some (g,e.val),by simp[Instr.findNow,n],.inr ⟨0,k',d,e.val,rfl,rfl,p,c,by simp[kJ,c],λv=>by simp[MG,c]⟩⟩
   |false=>
    rw[c]at h;obtain⟨o,o1,o2⟩:=X4 a f m (g+1) h3 (λe q=>i e (by simp[q])) h;exact⟨o,by simp[Instr.findNow,n,o1],o2.later c⟩
variable{u:TypeId}
theorem dZ{ks:List Kd}{k:D}(a:∀(k':D)(j:Value)(b:Bool),rel M ρ k' j->yz true k'=true->eqK ks k.cells k'.cells=some b->(Op.equal u vx j).run P w=.ok b w):
  ∀(f:List (D×D))(l:List MapEntry)(g:Nat),pa M ρ f l->(∀e∈f,yz true e.1=true)->(kJ ks k f).isSome=true->∃o,(Instr.findAsking u vx l g).run P w=.ok o w/\Qi ks M ρ k f g o
 | [],l,g,hr,_,_=>by simp only[pa]at hr;subst hr;exact⟨none,rfl,.inl ⟨rfl,rfl,λv=>rfl⟩⟩
 |(k',d)::f,l,g,hr,i,h=>by
  obtain⟨e,m,rfl,h1,p,h3⟩:=hr;simp only[kJ]at h;cases c:eqK ks k.cells k'.cells with
  |none=>rw[c]at h;cases h
  |some b=>
   have n:=a k' e.key b h1 (i (k',d) (by simp)) c;cases b with
   |true=>exact⟨some (g,e.val),by simp[Instr.findAsking,n],.inr ⟨0,k',d,e.val,rfl,rfl,p,c,by simp[kJ,c],λv=>by simp[MG,c]⟩⟩
   |false=>
    rw[c]at h;obtain⟨o,o1,o2⟩:=dZ a f m (g+1) h3 (λe q=>i e (by simp[q])) h;exact⟨o,by simp[Instr.findAsking,n,o1],o2.later c⟩
def Zs{ag:Bool}{ks:List Kd}(s:N3 P u=some (ag,ks)){k:D}(j:rel M ρ k vx)(l:yz ag k=true){h:List (D×D)}{i:List MapEntry}(hr:pa M ρ h i)(n:∀e∈h,yz ag e.1=true)
  (v:(kJ ks k h).isSome=true):∃o,(Instr.findKey u vx i).run P w=.ok o w/\Qi ks M ρ k h 0 o:=by
 obtain⟨f,c⟩:=XV s;have y:∀(k':D)(d:Value)(b:Bool),rel M ρ k' d->yz ag k'=true->eqK ks k.cells k'.cells=some b->(Op.equal u vx d).run P w=.ok b w:=λk' d b h1 r h3=>by
  have:=Pj (P:=P) (M:=M) (ρ:=ρ) (w:=w) 9992 8 u ks ag f c k k' vx d b l r j h1 h3;exact this
 obtain⟨td,p,_⟩:=YG (P:=P) (w:=w) c;cases ag with
 |true=>
  obtain⟨o,o1,o2⟩:=dZ (P:=P) (w:=w) y h i 0 hr n v;refine⟨o,?_,o2⟩;unfold Instr.findKey;simp only[zx,zU p,zX];have t:∀a b,Instr.sameNow td a b=none:=by
   intro a b;unfold agT at c;rw[p]at c;cases td<;>simp only at c<;>(try (cases c;done))<;>rfl
  cases i with
  |nil=>simpa [Instr.findAsking,Instr.findNow]using o1
  |cons e q=>
   have hf:Instr.findNow td vx (e::q) 0=none:=by simp[Instr.findNow,t]
   rw[hf];exact o1
 |false=>
  have g:∀(k':D)(d:Value)(b:Bool),rel M ρ k' d->yz false k'=true->eqK ks k.cells k'.cells=some b->Instr.sameNow td vx d=some b:=by
   intro k' d b h1 r h3;obtain⟨A,rfl⟩:=lx f c;unfold pK at f;rw[p]at f;have m:∀fs,td≠ .struct fs:=λfs e=>by subst e;simp[agT,p]at c
   cases td<;>simp only at f<;>(try (cases f;done))<;>(try (exact absurd rfl (m _)))<;>(try (split at f<;>cases f))
   all_goals
    cases k<;>simp[yz]at l<;>cases k'<;>simp[yz]at r<;>simp[D.cells,eqK]at h3;simp only[rel]at j h1
   ·subst j h1 h3;rfl
   ·obtain⟨rfl,_⟩:=j;obtain⟨rfl,_⟩:=h1;obtain⟨rfl,rfl⟩:=h3;simp[Instr.sameNow]
   ·obtain⟨z,rfl,rfl,_⟩:=j;obtain⟨x,rfl,rfl,_⟩:=h1;subst h3;simp only[Instr.sameNow];rw[beq_toListBytes,uX,uX]
  obtain⟨o,o1,o2⟩:=X4 g h i 0 hr n v;refine⟨o,?_,o2⟩;unfold Instr.findKey;simp only[zx,zU p,zX,o1,yN]
def N9(m:Value):Sem (Array MapEntry):=
 match m with
 |.map none=>pure #[]
 |.map (some r)=>do
  let .map es _<-getObj r|stuck "no map"
  pure es
 |_=>stuck "no map"
def Xb(e:TypeId)(o:Option (Nat×Value)):Sem (Value×Bool):=
 match o with
 |some (_,v)=>pure (v,true)
 |none=>do pure (<-zeroValue e,false)
def Lu(j:Sim w0 G M ρ h w){m:D}{c:List (D×D)}(d:rel M ρ m vx)(a:Wa m h=some c):∃b:Array MapEntry,pa M ρ c b.toList/\(N9 vx).run P w=.ok b w:=by
 unfold Wa at a;split at a
 ·cases a;subst d;exact⟨#[],by simp[pa],rfl⟩
 ·rename_i id;split at a
  ·rename_i e g;cases a;obtain⟨l,i,rfl⟩:=d;obtain⟨n,h1,_,b,k,f,h3⟩:=j.live id _ g;rw[i]at h1;cases h1;exact⟨b,h3,by simp[N9,getObj,Sem.run,f]⟩
  ·cases a
 ·cases a
def Jy(P:Program)(w:World)(t kt e:TypeId)(h c:Value)(ok:Bool)(j:P.underlying t=some (.map kt e)){g:Array MapEntry}(b:(N9 h).run P w=.ok g w):
  (Instr.lookup t h c ok).run P w=(do
   Instr.checkKey g.isEmpty 10000 kt c
   let o<-Instr.findKey kt c g.toList
   let (v,p)<-Xb e o
   pure (if ok then .tuple #[v,.bool p]else v):Sem Value).run P w:=by
 unfold Instr.lookup;simp only[zx,zU j,zX];have tail:∀(d:Array MapEntry)(w:World),(do
   Instr.checkKey d.isEmpty 10000 kt c
   match<-Instr.findKey kt c d.toList with
    |some (_,v)=>do
     let x<-pure (v,true)
     pure (if ok=true then Value.tuple #[x.1,Value.bool x.2]else x.1)
    |none=>do
     let l<-zeroValue e
     let x<-pure (l,false)
     pure (if ok=true then Value.tuple #[x.1,Value.bool x.2]else x.1):Sem Value).run P w =
   (Sem.run P (Instr.checkKey d.isEmpty 10000 kt c) w).andThen λ_ f=>
    (Sem.run P (Instr.findKey kt c d.toList) f).andThen λa f=>
     (Sem.run P (Xb e a) f).andThen λa f=>
      Sem.run P (pure (if ok=true then Value.tuple #[a.fst,Value.bool a.snd]else a.fst)) f:=by
  intro d w;simp only[zx];congr 1;funext _ m;congr 1;funext o w2;cases o with
  |none=>
   simp only[Xb,zx,yN];cases(zeroValue e).run P w2<;>rfl
  |some p=>rfl
 cases h with
 |map r=>
  cases r with
  |none=>
   cases b;exact tail #[] w
  |some r=>
   simp only[N9,zx]at b⊢;cases i:(getObj r).run P w with
   |ok k m=>
    rw[i]at b;cases k with
    |map d n=>
     cases b;exact tail g w
    |_=>cases b
   |_=>rw[i]at b;cases b
 |_=>cases b
variable{vy:Value}
def Lz(F:Sim w0 G M ρ h w){m k d:D}{ok:Bool}(S:rel M ρ m vx)(K:rel M ρ k vy)(a:uY P t m k ok h=some d):YV P w0 G M ρ nid w (Instr.lookup t vx vy ok) d h:=by
 unfold uY at a;split at a
 ·cases a
 ·rename_i kt e C;split at a
  ·cases a
  ·rename_i ag ks l;split at a
   ·cases a
   ·rename_i z T;obtain⟨i,U,_,_,E,f⟩:=oC (P:=P) (M:=M) (ρ:=ρ) (w:=w) T;split at a
    ·cases a
    ·rename_i H y;unfold fN at a;split at a
     ·rename_i J;simp only[zF]at J;obtain⟨⟨g,A⟩,I⟩:=J;have c:∀e∈H,yz ag e.1=true:=by grind
      obtain⟨W,x,n⟩:=Lu (P:=P) F S y;obtain⟨R,q⟩:=XV l;have s:=λp=>fF (P:=P) (M:=M) (ρ:=ρ) (w:=w) p 9992 8 kt ks ag R q k vy g K A;split at a
      ·rename_i r hr;cases a;have B:(kJ ks k H).isSome=true:=by rw[hr];rfl
       obtain⟨o,o1,o2⟩:=Zs (P:=P) (w:=w) l K g x c B;have L:∀(v:Value)(b:Bool),(Xb e o).run P w=.ok (v,b) w->
         (Instr.lookup t vx vy ok).run P w=.ok (if ok then .tuple #[v,.bool b]else v) w:=by
        rw[Jy P w t kt e vx vy ok (Xd C) n];simp only[zx];rw[show(10000:Nat)=8+9992 from rfl,s]
        simp_all
       rcases o2 with⟨rfl,N,_⟩ | ⟨j,k',V,u,rfl,_,O,_,Q,_⟩
       ·rw[N]at hr;cases hr;refine .pure F (L U false (by simp[Xb,f])) ?_;cases ok with
        |true=>
         grind [dw,rel,wJ,uz]
        |false=>simpa [dw]using E
       ·rw[Q]at hr;cases hr;refine .pure F (L u true rfl) ?_;cases ok with
        |true=>
         grind [dw,rel,wJ,uz]
        |false=>simpa [dw]using O
      ·cases a
     ·cases a
theorem YL:∀{ks:List Kd}{as a:List D}{b:Bool},eqK ks as a=some b->eqK ks a as=some b
 | [],[],[],b,h=>h
 |.b::ks,.bool x::as,.bool y::a,b,h=>by
  simp only[eqK,zh]at h⊢;obtain⟨q,h,c⟩:=h;exact⟨q,YL h,by rw[<-c,jJ]⟩
 |.i::ks,.int k x::as,.int k' y::a,b,h=>by
  simp only[eqK]at h⊢;split at h
  ·rename_i d;subst d;rw[ip rfl];simp only[zh]at h⊢;obtain⟨q,h,c⟩:=h;exact⟨q,YL h,by rw[<-c,jJ]⟩
  ·cases h
 |.s::ks,.str x::as,.str y::a,b,h=>by
  simp only[eqK,zh]at h⊢;obtain⟨q,h,c⟩:=h;exact⟨q,YL h,by rw[<-c,jJ]⟩
theorem zAd{ks:List Kd}{ag:Bool}{k k':D}(n:Nat)(h1:rel M ρ k vx)(d:rel M ρ k' vy)(s1:yz ag k=true)(s2:yz ag k'=true)(c:eqK ks k.cells k'.cells=some true):Instr.sameBits (n+1) vx vy=true:=by
 cases ag with
 |true=>
  cases k<;>simp[yz]at s1;cases k'<;>simp[yz]at s2;obtain⟨xs,rfl,e,_⟩:=h1;obtain⟨ys,rfl,f,_⟩:=d;have j:=o8 c;have i:xs.size=ys.size:=by
   have a:=qI e;have b:=qI f
   grind [D.cells]
  have:=lJ (n:=n) c e f;simp only[Instr.sameBits,i,nz,tz];simpa using this
 |false=>
  have g:k.cells= [k]:=by cases k<;>simp[yz]at s1<;>rfl
  have h:k'.cells= [k']:=by cases k'<;>simp[yz]at s2<;>rfl
  rw[g,h]at c;have:=lJ (M:=M) (ρ:=ρ) (xs:=[vx]) (ys:=[vy]) (n:=n+1) c ⟨vx,[],rfl,h1,rfl⟩ ⟨vy,[],rfl,d,rfl⟩;simpa using this
theorem QF{k d:D}{e:MapEntry}(m:rel M ρ k e.key)(l:rel M ρ d e.val):∀{b:List (D×D)}{a:List MapEntry}(i:Nat),pa M ρ b a->pa M ρ (b.set i (k,d)) (a.set i e)
 | [],a,i,h=>by grind [pa]
 |(k',c)::b,a,0,h=>by grind [pa]
 |(k',c)::b,a,i+1,h=>by
  obtain⟨f,g,rfl,h1,j,h3⟩:=h;exact⟨f,_,rfl,h1,j,QF m l i h3⟩
theorem Vb{k d:D}{e:MapEntry}(j:rel M ρ k e.key)(i:rel M ρ d e.val):∀{b:List (D×D)}{a:List MapEntry},pa M ρ b a->pa M ρ (b++ [(k,d)]) (a++ [e])
 | [],a,h=>by grind [pa]
 |(k',l)::b,a,h=>by
  obtain⟨c,f,rfl,h1,g,h3⟩:=h;exact⟨c,_,rfl,h1,g,Vb j i h3⟩
theorem QE:∀{c:List (D×D)}{b:List MapEntry},pa M ρ c b->∀(i:Nat)(k d:D),c[i]? =some (k,d)->∃e,b[i]? =some e/\rel M ρ k e.key/\rel M ρ d e.val
 | [],_,_,i,k,d,a=>by simp at a
 |(k',l)::c,b,h,i,k,d,a=>by
  obtain⟨f,g,rfl,h1,j,h3⟩:=h;cases i with
  |zero=>simp at a;obtain⟨rfl,rfl⟩:=a;exact⟨f,rfl,h1,j⟩
  |succ i=>simp at a;simpa using QE h3 i k d a
variable{h':Heap}
def bt(S:Sim w0 G M ρ h w){m k v:D}{vm g r:Value}(hm:rel M ρ m vm)(I:rel M ρ k g)(E:rel M ρ v r)(c:uJ P t m k v h=some h'):
  ∃w',(Instr.mapUpdate t vm g r).run P w=.ok () w'/\Sim w0 G M ρ h' w':=by
 unfold uJ at c;split at c
 ·cases c
 ·rename_i kt e B;split at c
  ·rename_i ag ks z;split at c
   ·rename_i id;split at c
    ·rename_i es X;split at c
     ·rename_i W;simp only[zF]at W;obtain⟨⟨⟨y,N⟩,V⟩,R⟩:=W;have q:∀e∈es,yz ag e.1=true:=by grind
      split at c
      ·rename_i x a;cases c;obtain⟨l,Y,rfl⟩:=hm;obtain⟨l',h1,L,s,F,H,h3⟩:=S.live id _ X;rw[Y]at h1;cases h1;obtain⟨h8,K⟩:=XV z;have ad:=fF (P:=P) (M:=M) (ρ:=ρ) (w:=w) false 9992 8 kt ks ag h8 K k g y I N;obtain⟨o,o1,o2⟩:=Zs (P:=P) (w:=w) z I y h3 q R;have n:(getObj l.blk).run P w=.ok (.map s F) w:=by simp[getObj,Sem.run,H]
       have Z:∀U:Go.Obj,(setObj l.blk U).run P w=.ok () { w with heap:=w.heap.setIfInBounds l.blk U } :=λU=>by simp[setObj,Sem.run,H]
       have f:∀(i:Array MapEntry)(p:Nat),pa M ρ x i.toList->Sim w0 G M ρ (h.set id (.map x)) { w with heap:=w.heap.setIfInBounds l.blk (.map i p) } :=by
        intro i p C;have Q:l.blk<w.heap.size:=by grind
        refine S.put X Y rfl rfl rfl (by simp) (λb hb=>by simp only[tL];rw[iq (λe=>hb e.symm)]) (λo v e=> ?_) ⟨_,H,λd=>by simp⟩ ⟨i,p,by simp[Q],C⟩;have:=S.imm _ _ _ e;simp[World.cell?,H]at this
       rcases o2 with⟨rfl,_,f1⟩ | ⟨j,k',d',u,rfl,f2,f3,f4,_,f5⟩
       ·rw[f1]at a;cases a;refine⟨_,?_,f (s.push { key:=g,val:=r,born:=F }) (F+1) (by rw[Array.toList_push];exact Vb I E h3)⟩;unfold Instr.mapUpdate;simp only[zx,zU (Xd B),zX,n]
        simp_all
       ·rw[f5]at a;cases a;obtain⟨J,e1,e2,e3⟩:=QE h3 j k' d' f2;have O:(Instr.keyThatStays J.key g).run P w=.ok g w:=by
         have T:Instr.sameBits 10000 J.key g=true:=by grind [zAd,YL]
         simp[Instr.keyThatStays,T]
        have A:(s.modify j λe=> { e with key:=g,val:=r }).toList=s.toList.set j { J with key:=g,val:=r } :=by
         apply sT
         grind
        refine⟨_,?_,f (s.modify j λe=> { e with key:=g,val:=r }) F (by rw[A];exact QF I E j h3)⟩;unfold Instr.mapUpdate;simp only[zx,zU (Xd B),zX,n]
        simp_all [yZ,wB,zA]
      ·cases c
     ·cases c
    ·cases c
   ·cases c
  ·cases c
def Py(c:Sim w0 G M ρ h w)(a:ρ nid=none) :YV P w0 G M ρ nid w (Instr.makeMap t none) (.map nid) (h.new nid (.map [])):=by
 have k:=c.allocObj a (.map #[] 0) (.map []) ⟨w.heap.size,0,0⟩ rfl ⟨#[],0,by show(w.heap.push _)[w.heap.size]? =_;simp,by simp[pa]⟩;refine⟨.map (some w.heap.size),_,M,_,by simp[Instr.makeMap],MLe.refl _,tQ a,λi b=>by simp[nj,kx b],k,?_⟩
 simp_all [rel,nj]
end
def C1:Operand->Bool
 |.tmp _=>true
 |.const v=>kb v
 |.global _=>false
 |.func _=>true
def PY(o:Op):Bool:=o.operands.toList.all C1
def YN(P:Program)(w0:Base)(G:List Nat)(M:Imm)(ρ:Ren)(nid:Nat)(w:World)(s:Sem Next)(d:D)(h':Heap):Prop:=
 ∃nx v w' M' ρ',s.run P w=.ok nx w'/\(nx=.value v\/(nx=.skip/\v=undef))/\MLe M M'/\RLe ρ ρ'/\(∀i,h'.next<=i\/i≠nid->ρ' i=ρ i)/\Sim w0 G M' ρ' h' w'/\rel M' ρ' d v
section
variable{P:Program}{w0:Base}{G:List Nat}{M:Imm}{ρ:Ren}{h:Heap}{w:World}{nid:Nat}
variable{d:D}{h':Heap}
def YV.next{s:Sem Value}(k:YV P w0 G M ρ nid w s d h'):YN P w0 G M ρ nid w (do Pure.pure (Next.value (<-s))) d h':=by
 obtain⟨v,a,M',b,k1,k2,k3,k4,k5,k6⟩:=k;exact⟨.value v,v,a,M',b,by simp[k1],.inl rfl,k2,k3,k4,k5,k6⟩
theorem fE:rel M ρ rD undef:=by
 unfold rD undef
 grind [rel,wJ]
def YN.skip{s:Sem Unit}(k:∃a,s.run P w=.ok () a/\Sim w0 G M ρ h' a):YN P w0 G M ρ nid w (do s;pure Next.skip) rD h':=by
 obtain⟨a,k1,k2⟩:=k;exact⟨.skip,undef,a,M,ρ,by simp[k1],.inr ⟨rfl,rfl⟩,MLe.refl _,RLe.refl _,λ_ _=>rfl,k2,fE⟩
variable{v:Value}
def YN.still{s:Sem Next}(b:Sim w0 G M ρ h w)(hr:s.run P w=.ok (.value v) w)(a:rel M ρ d v):YN P w0 G M ρ nid w s d h:=
 ⟨.value v,v,w,M,ρ,hr,.inl rfl,MLe.refl _,RLe.refl _,λ_ _=>rfl,b,a⟩
variable{fr:Frm}
def bm{a:Act}(hf:VX M ρ fr a.tmps):∀{x:Operand},C1 x=true->rel M ρ (wE fr x) (a.eval x)
 |.tmp t,_=>hf t
 |.const v,h=>Ph v h
 |.global _,h=>by simp[C1]at h
 |.func f,_=>by
  simp only[wE,Act.eval,rel,wJ]
  grind
theorem fC{a:Act}(hf:VX M ρ fr a.tmps):∀{xs:List Operand},xs.all C1=true->wJ M ρ (xs.map (wE fr)) (xs.map a.eval)
 | [],_=>rfl
 |x::xs,h=>by
  simp only[uv,zF]at h;exact⟨_,_,rfl,bm hf h.1,fC hf h.2⟩
variable{t:TypeId}{x:D}{vx:Value}
def Iq(j:Sim w0 G M ρ h w)(e:ρ nid=none)(l:rel M ρ x vx)(a:Z1 P nid t x h=some (d,h')):YV P w0 G M ρ nid w (Instr.range t vx) d h':=by
 unfold Z1 at a;split at a
 ·rename_i s;split at a
  ·rename_i k;cases a;obtain⟨b,rfl,rfl,c⟩:=l;have f:=j.allocObj e (.stringIter b 0) (.siter b.data.toList 0) ⟨w.heap.size,0,0⟩ rfl ⟨b,by show(w.heap.push _)[w.heap.size]? =_;simp,rfl⟩;refine⟨.pointer (some ⟨w.heap.size,0,none⟩),_,M,_,?_,MLe.refl _,tQ e,λi g=>by simp[nj,kx g],f,?_⟩
   ·simp only[Instr.range,zx,zU k,zX,yN,ZJ,kF]
   ·simp_all [rel,nj]
  ·cases a
 ·cases a
def FR(i:Sim w0 G M ρ h w){ty:TypeId}{g:Bool}(B:rel M ρ x vx)(a:Wk x g h=some (d,h')):YV P w0 G M ρ nid w (Instr.next vx g ty) d h':=by
 unfold Wk at a;split at a
 ·rename_i id off;split at a
  ·rename_i s pos r;split at a
   ·rename_i q;simp only[zF,zO]at q;obtain⟨rfl,rfl⟩:=q;obtain⟨l,t,rfl⟩:=B;obtain⟨C,h1,m,b,f,j⟩:=i.live id _ r;rw[t]at h1;cases h1;have A:b.size=s.length:=by rw[<-j,yQ];rfl
    have n:(⟨s.toArray⟩:ByteArray)=b:=by rw[<-j]
    have p:l.blk<w.heap.size:=by grind
    split at a
    ·rename_i z;split at a
     ·rename_i hr;simp only[zF,zO,qN]at hr;cases a;have u:Sim w0 G M ρ (h.set id (.siter s (pos+(rn s pos).2))) { w with heap:=w.heap.setIfInBounds l.blk (.stringIter b (pos+(rn s pos).2)) } :=by
       refine i.put r t rfl rfl rfl (by simp) (λb' k=>by simp only[tL];rw[iq (λe=>k e.symm)]) (λo v e=> ?_) ⟨_,f,λd=>by simp⟩ ⟨b,by simp[p],j⟩;have:=i.imm _ _ _ e;simp[World.cell?,f]at this
      refine⟨.tuple #[.bool true,.int .i64 pos,.int .i32 (rn s pos).1],_,M,ρ,?_,MLe.refl _,RLe.refl _,λ_ _=>rfl,u,?_⟩
      ·have c:pos<b.size:=ow;have y:Utf8.decode b pos=rn s pos:=by unfold rn;rw[n]
       simp only[Instr.next,getObj,zx,Sem.run,f,zX,c,qS,y];simp[setObj,Sem.run,f];rfl
      ·simp only[rel,wJ];refine⟨_,rfl,_,_,rfl,rfl,_,_,rfl,⟨rfl,?_⟩,_,_,rfl,⟨rfl,hr.2⟩,rfl⟩
       grind [Zk]
     ·cases a
    ·rename_i z;cases a;have c:¬pos<b.size:=ow;refine .pure i (v:=.tuple #[.bool false]) ?_ ?_
     ·simp only[Instr.next,getObj,zx,Sem.run,f,zX,c,yy];rfl
     ·grind [rel,wJ]
   ·cases a
  ·cases a
 ·cases a
variable{α β:Type}
def wi{o:Option α}{f:α->β}{b:β}(h:o.map f=some b):∃a,o=some a/\f a=b:=by simpa [zh]using h
variable{ds:List D}
def Pv(f:Sim w0 G M ρ h w)(C:ρ nid=none){mu:Bool}{b:Builtin}{g:Array TypeId}{ty:TypeId}{cs:Array Bool}{vs:Array Value}(hr:wJ M ρ ds vs.toList)
  (a:mS P mu nid b g.toList ds h=some (d,h')):YN P w0 G M ρ nid w (builtin b g ty cs vs) d h':=by
 obtain⟨g⟩:=g;obtain⟨vs⟩:=vs;simp only at hr a;unfold mS at a;split at a
 ·split at a
  ·split at a
   ·simp only[wJ]at hr;obtain⟨v,_,rfl,hr,rfl⟩:=hr;obtain⟨e,h1,m⟩:=wi a;cases m;exact(zAm f hr h1).next
   ·cases a
  ·cases a
 ·split at a
  ·split at a
   ·rename_i t u s x;split at a
    ·rename_i i;obtain⟨v,_,rfl,hr,z,_,rfl,c,rfl⟩:=hr;unfold rp at i;split at i
     ·cases i
     ·rename_i J j p;exact(Ps f C p (λk e=>by subst e;first|exact j k rfl|exact j k p) hr c a).next
     ·cases i
    ·simp only[wJ]at hr;obtain⟨v,_,rfl,hr,z,_,rfl,c,rfl⟩:=hr;exact YV.next (s:=Builtin.append_ _ ty _) (Pt f C hr c a)
   ·cases a
  ·cases a
 ·split at a
  ·simp only[wJ]at hr;obtain⟨v,_,rfl,hr,z,_,rfl,c,rfl⟩:=hr;obtain⟨e,h1,m⟩:=wi a;cases m;exact(zAn (t:=0) f _ hr c h1).next
  ·cases a
 ·split at a
  ·rw[wJ]at hr;obtain⟨v,vs,rfl,hr,c⟩:=hr;obtain⟨e,h1,m⟩:=wi a;cases m;exact(FQ f _ hr c h1).next
  ·cases a
 ·split at a
  ·split at a
   ·split at a
    ·rename_i x;obtain⟨v,_,rfl,hr,rfl⟩:=hr;split at a
     ·rename_i e p;cases a;subst hr;refine YV.next (s:=Builtin.cap_ _ ty _) (.pure f (v:=.int .i64 0) (by simp[Builtin.cap_,zU p,goInt]) (uM ?_));rw[oR];simp[IntKind.min,IntKind.max,IntKind.signed,IntKind.bits]
     ·cases a
    ·cases a
   ·cases a
  ·cases a
 ·split at a
  ·split at a
   ·split at a
    ·rename_i x id sz off n;obtain⟨v,_,rfl,hr,rfl⟩:=hr;split at a
     ·cases a
     ·rename_i I r;cases a;obtain⟨_,E,l,cap,o,H,rfl,A,B,y⟩:=hr;have D:n≠0:=λq=>r q;obtain rfl:o=0:=y.resolve_left ow;refine YV.next (s:=Builtin.unsafeSliceData_ _ ty _) (.pure f (Go.Lib.run_unsafeSliceData_row w _ _ ⟨l.blk,0,none⟩ n cap ow) ?_)
      grind [rel]
     ·cases a
    ·simp only[wJ]at hr;obtain⟨v,_,rfl,hr,rfl⟩:=hr;cases a;subst hr;exact YV.next (s:=Builtin.unsafeSliceData_ _ ty _) (.pure f rfl (by simp only[rel]))
    ·cases a
   ·cases a
  ·cases a
 ·split at a
  ·split at a
   ·simp only[wJ]at hr;obtain⟨v,_,rfl,hr,z,_,rfl,c,rfl⟩:=hr;exact YV.next (s:=Builtin.unsafeString_ _ ty _) (TB f hr c a)
   ·cases a
  ·cases a
 ·split at a
  ·split at a
   ·simp only[wJ]at hr;obtain⟨v,_,rfl,hr,rfl⟩:=hr;obtain⟨e,h1,m⟩:=wi a;cases m;obtain⟨F,k1,k2⟩:=Im (ty:=ty) f hr h1;refine YV.next (s:=Builtin.clear_ _ ty _) ⟨_,F,M,ρ,k1,MLe.refl _,RLe.refl _,λ_ _=>rfl,k2,fE⟩
   ·cases a
  ·cases a
 ·cases a
variable{o:Oper}
theorem C8(A:Sim w0 G M ρ h w)(J:ρ nid=none){mu:Bool}{a:Act}(hf:VX M ρ fr a.tmps)(H:PY o.op=true)(q:vop P mu nid o.op (wE fr) h=some (d,h')):
  YN P w0 G M ρ nid w (execOp a.eval o) d h':=by
 obtain⟨dst,op,ty,pos,after,guard⟩:=o;have j:∀x∈op.operands.toList,rel M ρ (wE fr x) (a.eval x):=λx E=>bm hf (zo.1 H x E);cases op<;>simp only[vop]at q<;>(try (cases q;done))<;>simp only[Op.operands]at j<;>simp only[execOp]
 case move x=>cases q;exact .still A rfl (j x (by simp))
 case assign x=>cases q;exact .still A rfl (j x (by simp))
 case pick c x y=>
  have F:=j c (by simp);split at q
  ·rename_i e;rw[e]at F;simp only[rel]at F;cases q;exact .still A (by simp[F,asBool]) (j x (by simp))
  ·rename_i e;rw[e]at F;simp only[rel]at F;cases q;exact .still A (by simp[F,asBool]) (j y (by simp))
  ·cases q
 case alloc t=>
  split at q
  ·rename_i z K;split at q
   ·rename_i L;cases q;exact(Ij A J K L).next
   ·cases q
  ·cases q
 case box t x=>
  split at q
  ·rename_i L;split at q
   ·rename_i hm;cases q;exact(X9 A J (j x (by simp)) L).next
   ·cases q;exact(Pu A (j x (by simp)) L).next
  ·cases q
 case build t ps=>
  obtain⟨e,h1,B⟩:=wi q;cases B;exact(Il A (wE fr) a.eval (λp R=>j p.2 (by simp;exact⟨p.1,by simpa using R⟩)) h1).next
 case buildSlice t n ps=>
  exact(Wh A J (wE fr) a.eval (λp R=>j p.2 (by simp;exact⟨p.1,by simpa using R⟩)) q).next
 case load t x=>
  obtain⟨e,h1,B⟩:=wi q;cases B;exact(FP A (j x (by simp)) h1).next
 case store t x y=>
  obtain⟨e,h1,B⟩:=wi q;cases B;exact .skip (It A (j x (by simp)) (j y (by simp)) h1)
 case nilCheck x=>
  obtain⟨e,h1,B⟩:=wi q;cases B;have E:=j x (by simp);unfold qQ at h1;split at h1<;>(try (cases h1;done))<;>rename_i e<;>rw[e]at E<;>cases h1
  ·have D:=E;simp only[rel]at D;obtain⟨l,_,e⟩:=D;rw[e]at E⊢;exact .still A rfl E
  ·have D:=E;simp only[rel]at D;obtain⟨b,p,e,_⟩:=D;rw[e]at E⊢;exact .still A rfl E
  ·have D:=E;simp only[rel]at D;obtain⟨_,va,vc,e,_⟩:=D;rw[e]at E⊢;exact .still A rfl E
  ·have D:=E;simp only[rel]at D;obtain⟨l,_,e⟩:=D;rw[e]at E⊢;exact .still A rfl E
 case binOp op t x y u=>
  obtain⟨e,h1,B⟩:=wi q;cases B;exact(zAl A x y (j x (by simp)) (j y (by simp)) h1).next
 case unOp op t x=>
  obtain⟨e,h1,B⟩:=wi q;cases B;exact(zGl A (j x (by simp)) h1).next
 case convert s t x=>
  obtain⟨e,h1,B⟩:=wi q;cases B;exact(In A (j x (by simp)) h1).next
 case makeInterface t x=>
  split at q
  ·rename_i F;cases q;unfold zES at F;refine YV.next (YV.pure (s:=Instr.makeInterface t (a.eval x)) A (v:=.iface t (a.eval x)) ?_ (by simp only[rel];exact⟨_,rfl,j x (by simp)⟩));split at F
   ·cases F
   ·rename_i W I U;cases W<;>first|(exact absurd rfl (I _);done)|(exact absurd U (I _);done)|(simp only[Instr.makeInterface,zx,zU U,zX];rfl)
   ·cases F
  ·cases q
 case makeFunc g x y=>
  split at q
  ·rename_i f;cases q;refine YV.next (YV.pure (s:=Instr.makeFunc (.func f) (x.map a.eval) (y.map a.eval)) A (v:=.func (.func f) (x.map a.eval) (y.map a.eval)) (by simp[Instr.makeFunc]) ?_);simp only[rel];refine⟨⟨f,rfl⟩,_,_,rfl,?_,?_⟩
   ·rw[ua];exact fC hf (zo.2 λz K=>zo.1 H z (by simp[Op.operands];exact .inl (by simpa using K)))
   ·rw[ua];exact fC hf (zo.2 λz K=>zo.1 H z (by simp[Op.operands];exact .inr (by simpa using K)))
  ·cases q
 case makeMap t r=>
  split at q
  ·cases q;exact(Py A J).next
  ·cases q
 case makeSlice t x y=>exact(U9 A J (j x (by simp)) (j y (by simp)) q).next
 case slice t x lo hi mx=>
  obtain⟨e,h1,B⟩:=wi q;cases B;unfold uZ at h1;split at h1
  ·rename_i na Z S;cases mx with
   |some m=>cases h1
   |none=>
    refine(L5 (vlo:=lo.map a.eval) (vhi:=hi.map a.eval) A S (j x (by simp)) ?_ ?_ ?_ ?_ h1).next
    ·intro d C;cases lo with
     |none=>cases C
     |some z=>cases C;exact⟨_,rfl,j z (by simp)⟩
    ·intro C;cases lo with
     |none=>rfl
     |some z=>cases C
    ·intro d C;cases hi with
     |none=>cases C
     |some z=>cases C;exact⟨_,rfl,j z (by simp)⟩
    ·intro C;cases hi with
     |none=>rfl
     |some z=>cases C
  cases mx with
  |some m=>
   cases hi with
   |none=>simp[fR]at h1
   |some u=>
    refine(L4 (vlo:=lo.map a.eval) A (j x (by simp)) ?_ ?_ (j u (by simp)) (j m (by simp)) h1).next
    ·intro d C;cases lo with
     |none=>cases C
     |some z=>cases C;exact⟨_,rfl,j z (by simp)⟩
    ·intro C;cases lo with
     |none=>rfl
     |some z=>cases C
  |none=>
   refine(Ir (vlo:=lo.map a.eval) (vhi:=hi.map a.eval) A (j x (by simp)) ?_ ?_ ?_ ?_ h1).next
   ·intro d C;cases lo with
    |none=>cases C
    |some z=>cases C;exact⟨_,rfl,j z (by simp)⟩
   ·intro C;cases lo with
    |none=>rfl
    |some z=>cases C
   ·intro d C;cases hi with
    |none=>cases C
    |some z=>cases C;exact⟨_,rfl,j z (by simp)⟩
   ·intro C;cases hi with
    |none=>rfl
    |some z=>cases C
 case fieldAddr t x f=>
  obtain⟨e,h1,B⟩:=wi q;cases B;exact(U7 A (j x (by simp)) h1).next
 case field t x f=>
  obtain⟨e,h1,B⟩:=wi q;cases B;unfold BH at h1;split at h1
  ·rename_i Q;split at h1
   ·rename_i cs N;split at h1
    ·rename_i O;have E:=j x (by simp);rw[N]at E;exact(Io A E Q O h1).next
    ·cases h1
   ·cases h1
  ·cases h1
 case indexAddr t x y=>
  obtain⟨e,h1,B⟩:=wi q;cases B;exact(U8 A (j x (by simp)) (j y (by simp)) h1).next
 case index t x y=>
  obtain⟨e,h1,B⟩:=wi q;cases B;exact(Ip A (j x (by simp)) (j y (by simp)) h1).next
 case lookup t x y ok=>
  obtain⟨e,h1,B⟩:=wi q;cases B;exact(Lz A (j x (by simp)) (j y (by simp)) h1).next
 case mapUpdate t x y z=>
  obtain⟨e,h1,B⟩:=wi q;cases B;exact .skip (bt A (j x (by simp)) (j y (by simp)) (j z (by simp)) h1)
 case insert t x y z=>
  obtain⟨e,h1,B⟩:=wi q;cases B;exact .skip (bt A (j x (by simp)) (j y (by simp)) (j z (by simp)) h1)
 case range t x=>exact(Iq A J (j x (by simp)) q).next
 case next x isS=>exact(FR A (j x (by simp)) q).next
 case extract x i=>
  obtain⟨e,h1,B⟩:=wi q;cases B;exact(Px A (j x (by simp)) h1).next
 case call c=>
  split at q
  ·rename_i b T;have hr:wJ M ρ (c.args.toList.map (wE fr)) (c.args.map a.eval).toList:=by
    rw[ua];exact fC hf (zo.2 λz K=>zo.1 H z (by simp[Op.operands,Call.operands,T];simpa using K))
   have:=Pv (P:=P) (ty:=ty) (cs:=c.args.map fun|.const _=>true|_=>false) A J hr q
   obtain⟨V,v,X,M',Y,k⟩:=this;refine⟨V,v,X,M',Y,?_,k.2⟩;rw[<-k.1];simp only[resolve,T,zx,yN,zX,invoke];rfl
  ·cases q
end
def kU(ρ:Ren)(n:Nat):Prop:=∀i,n<=i->ρ i=none
def Ret(w0:Base)(G:List Nat)(M:Imm)(ρ:Ren)(Q:D->Heap->Prop)(e:Ending)(w':World):Prop:=
 ∃v M' ρ' d h',e=.returned v/\MLe M M'/\RLe ρ ρ'/\Sim w0 G M' ρ' h' w'/\kU ρ' h'.next/\rel M' ρ' d v/\Q d h'
def pQ(P:Program)(g:FuncId):Bool:=
 match P.funcs[g]? with
 |some fn=>fn.body.isSome&&fn.name != "runtime.NumGoroutine"
 |none=>false
noncomputable def cV:String:=String.ofList [Char.ofNat 105,Char.ofNat 110,Char.ofNat 116,Char.ofNat 101,Char.ofNat 114,Char.ofNat 110,Char.ofNat 97,Char.ofNat 108,Char.ofNat 47,Char.ofNat 115,Char.ofNat 116,Char.ofNat 114,Char.ofNat 99,Char.ofNat 111,Char.ofNat 110,Char.ofNat 118,Char.ofNat 46,Char.ofNat 117,Char.ofNat 105,Char.ofNat 110,Char.ofNat 116,Char.ofNat 54,Char.ofNat 52,Char.ofNat 112,Char.ofNat 111,Char.ofNat 119,Char.ofNat 49,Char.ofNat 48]
noncomputable def Xe:String:=String.ofList [Char.ofNat 105,Char.ofNat 110,Char.ofNat 116,Char.ofNat 101,Char.ofNat 114,Char.ofNat 110,Char.ofNat 97,Char.ofNat 108,Char.ofNat 47,Char.ofNat 98,Char.ofNat 121,Char.ofNat 116,Char.ofNat 101,Char.ofNat 97,Char.ofNat 108,Char.ofNat 103,Char.ofNat 46,Char.ofNat 77,Char.ofNat 97,Char.ofNat 120,Char.ofNat 76,Char.ofNat 101,Char.ofNat 110]
def KT(P:Program)(w:World):Prop:=(∀g,P.globalNamed cV=some g->Lib.TabIs P w cV .u64 Lib.pow10Tab)/\∀g,P.globalNamed Xe=some g->∃m,w.cell? ⟨g,0,none⟩ =some (.int .i64 m)
def Tf(P:Program)(w0:Base):Prop:=(∀g,P.globalNamed cV=some g->w0.keep g/\Lib.TabIs P w0.toWorld cV .u64 Lib.pow10Tab)/\∀g,P.globalNamed Xe=some g->w0.keep g/\∃m,w0.toWorld.cell? ⟨g,0,none⟩ =some (.int .i64 m)
variable{P:Program}{w w':World}{n id nid j i sz k:Nat}{x d y z:D}{vx vy v:Value}{vs:List Value}{M M':Imm}{ρ ρ':Ren}{u T t:TypeId}{ob:Obj}{l:Loc}{h' h h0:Heap}{fr:Frm}{α β:Type}{ds args:List D}{o:Oper}{os:List Nat}{K Q:D->Heap->Prop}{bk:Nat->Bool}{m b:Bool}{ev:Operand->D}{tmps va:Array Value}{U S0:Nat->Prop}{f:FuncId}
def Tf.here{w0:Base}(b:Tf P w0)(c:Kept w0 w){g:Nat}(h:P.globalNamed cV=some g):Lib.TabIs P w cV .u64 Lib.pow10Tab:=by
 obtain⟨h1,a⟩:=b.1 g h;unfold Lib.TabIs World.var? at a⊢;rw[h]at a⊢;simp only[sw]at a⊢;rw[c.block g h1];exact a
def Tf.max{w0:Base}(b:Tf P w0)(c:Kept w0 w){g:Nat}(h:P.globalNamed Xe=some g):∃m,w.cell? ⟨g,0,none⟩ =some (.int .i64 m):=by
 obtain⟨h1,m,a⟩:=b.2 g h;refine⟨m,?_⟩;unfold World.cell? at a⊢;rw[c.block g h1];exact a
def Tf.base{w0:Base}(c:Tf P w0)(e:Kept w0 w){K:Nat->Prop}{a:∀b,K b->b<w.heap.size}(d:∀b,w0.keep b->K b):Tf P ⟨w,M,K,a⟩:=by
 refine⟨λg h=> ?_,λg h=> ?_⟩
 ·exact⟨d g (c.1 g h).1,c.here e h⟩
 ·exact⟨d g (c.2 g h).1,c.max e h⟩
def Tf.start(h:KT P w){a:∀b,b<w.heap.size->b<w.heap.size} :Tf P ⟨w,M,λb=>b<w.heap.size,a⟩:=by
 refine⟨λg c=> ?_,λg c=> ?_⟩
 ·have e:=h.1 g c;refine⟨?_,e⟩;unfold Lib.TabIs World.var? at e
  grind
 ·obtain⟨m,d⟩:=h.2 g c;refine⟨?_,m,d⟩;unfold World.cell? at d
  grind
def zE(P:Program)(g:FuncId)(args:List D)(h:Heap)(Q:D->Heap->Prop):Prop:=
 pQ P g=true/\∀w0 G M ρ w va,Tf P w0->Sim w0 G M ρ h w->kU ρ h.next->wJ M ρ args va.toList->Calls P g va w (Ret w0 G M ρ Q)
def uS(P:Program)(id:Nat)(args:List D)(h:Heap)(Q:D->Heap->Prop):Prop:=
 ∀w0 G M ρ w va l,Tf P w0->Sim w0 G M ρ h w->kU ρ h.next->wJ M ρ args va.toList->ρ id=some l->
  ∃f tmps as body,(Instr.yield l.blk va).run P w=.ok (.round l.blk f tmps as body) w/\RoundIn Fence.wide 0 P l.blk f tmps as body w (Ret w0 G M ρ Q)
def Za(P:Program)(f:D)(args:List D)(h:Heap)(Q:D->Heap->Prop):Prop:=
 match f with
 |.fn g first cap=>match g with
  |.func g=>zE P g (first++args++cap) h Q
  |_=>False
 |.yld id=>uS P id args h Q
 |_=>False
def Ret.mono{w0:Base}{Q a:D->Heap->Prop}{e:Ending}(b:∀d h,Q d h->a d h):Ret w0 os M ρ Q e w'->Ret w0 os M ρ a e w'
 | ⟨v,M',c,d,h',k1,k2,k3,k4,k5,k6,k7⟩=>⟨v,M',c,d,h',k1,k2,k3,k4,k5,k6,b _ _ k7⟩
theorem zE.mono{g:FuncId}{Q a:D->Heap->Prop}(k:zE P g args h Q)(c:∀d h,Q d h->a d h):zE P g args h a:=
 ⟨k.1,λw0 G M ρ w e h0 h1 b h3=>(k.2 w0 G M ρ w e h0 h1 b h3).mono λ_ _=>Ret.mono c⟩
def zE.use{g:FuncId}{v:D}(k:zE P g args h λr h'=>h'=h/\r=v)(a:K v h):zE P g args h K:=by
 refine k.mono ?_;rintro r h' ⟨rfl,rfl⟩;exact a
theorem uS.mono{g:Nat}{Q c:D->Heap->Prop}(k:uS P g args h Q)(j:∀d h,Q d h->c d h):uS P g args h c:=
 λw0 G M ρ w m l h0 h1 e h3 i=>let ⟨f,t,a,b,k1,k2⟩:=k w0 G M ρ w m l h0 h1 e h3 i;⟨f,t,a,b,k1,k2.mono λ_ _=>Ret.mono j⟩
theorem Za.mono{f:D}{Q a:D->Heap->Prop}(b:∀d h,Q d h->a d h)(k:Za P f args h Q):Za P f args h a:=by
 cases f<;>simp only[Za]at k⊢
 case fn g first cap=>
  grind [zE.mono]
 grind [uS.mono]
def u0(o:Op):Option (Operand×List Operand):=
 match o with
 |.call c=>match c.callee with
  |.value f=>some (f,c.args.toList)
  |_=>none
 |_=>none
def rF(P:Program)(mu:Bool)(nid:Nat)(o:Op)(ev:Operand->D)(h:Heap)(K:D->Heap->Prop):Prop:=
 match u0 o with
 |some (f,args)=>Za P (ev f) (args.map ev) h K
 |none=>match vop P mu nid o ev h with
  |some (d,h')=>K d h'
  |none=>False
def uk(ops:Array Oper)(fr:Frm)(g:Option (Nat×Bool)):Bool:=
 match g with
 |none=>true
 |some (j,want)=>match(ops[j]?).bind (·.dst)with
  |some t=>match fr t with
   |.bool b=>b==want
   |_=>false
  |none=>false
def nf(fr:Frm)(dst:Option Tmp)(d:D):Frm:=
 match dst with
 |some t=>λi=>if i=t then d else fr i
 |none=>fr
def ar(mu:Tmp->Bool):Option Tmp->Bool
 |some t=>mu t
 |none=>false
def HLe(h h':Heap):Prop:=∀i ob,h.at' i=some ob->h'.at' i=some ob
def Hr(P:Program)(h0:Heap)(o:Op)(ev:Operand->D)(d:D):Prop:=∀h',HLe h0 h'->rF P false h'.next o ev h' λd' h''=>d'=d/\h''=h'
def Mx(P:Program)(h0:Heap)(o:Op)(ev:Operand->D)(S:D->Prop):Prop:=∀h',HLe h0 h'->rF P false h'.next o ev h' λd' h''=>S d'/\h''=h'
inductive Fl where
 |no|st|sq|qu|al (k:Nat)
def Fl.isSt:Fl->Bool
 |.st=>true
 |.sq=>true
 |_=>false
def Fl.isS1:Fl->Bool
 |.st=>true
 |_=>false
def Fl.isSq:Fl->Bool
 |.sq=>true
 |_=>false
def Fl.isQu:Fl->Bool
 |.qu=>true
 |_=>false
def Fl.isNo:Fl->Bool
 |.no=>true
 |_=>false
def Fl.isAl:Fl->Bool
 |.al _=>true
 |_=>false
def ux(P:Program)(mu:Tmp->Bool)(h0:Heap)(st:Fl)(ops:Array Oper)(o:Oper)(fr:Frm)(h:Heap)(k:D->Heap->Prop):Prop:=
 match uk ops fr o.guard with
 |false=>k rD h
 |true=>match st with
  |.st=>∃d,Hr P h0 o.op (wE fr) d/\k d h
  |.sq=>(u0 o.op).isSome=true/\∃S:D->Prop,(∃e,S e)/\Mx P h0 o.op (wE fr) S/\∀d,S d->k d h
  |.no=>rF P (ar mu o.dst) h.next o.op (wE fr) h k
  |.qu=>rF P (ar mu o.dst) h.next o.op (wE fr) h λd h'=>h'=h/\k d h
  |.al i=>rF P (ar mu o.dst) (h0.next+i) o.op (wE fr) h k
def WT(P:Program)(mu:Tmp->Bool)(ops:Array Oper):List Oper->(Frm->Heap->Prop)->Frm->Heap->Prop
 | [],K,fr,h=>K fr h
 |o::rest,K,fr,h=>
  match uk ops fr o.guard with
  |true=>rF P (ar mu o.dst) h.next o.op (wE fr) h λd h'=>WT P mu ops rest K (nf fr o.dst d) h'
  |false=>WT P mu ops rest K (nf fr o.dst rD) h
def nk(P:Program)(mu:Tmp->Bool)(h0:Heap)(bk:Nat->Bool)(ops:Array Oper):Bool->List (Nat×Fl)->(Frm->Heap->Prop)->Frm->Heap->Prop
 |_,[],K,fr,h=>K fr h
 |fl,(i,st)::rest,K,fr,h=>
  match ops[i]? with
  |none=>False
  |some o=>ux P mu h0 st ops o fr h λd h'=>((fl&& !bk i)=true->HLe h0 h')/\nk P mu h0 bk ops (fl&& !bk i) rest K (nf fr o.dst d) h'
def alN:List (Nat×Fl)->Nat
 | []=>0
 |x::rest=>match x.2 with
  |.al k=>max (k+1) (alN rest)
  |_=>alN rest
def Heap.bump(h:Heap)(m:Nat):Heap:= { next:=h.next+m,at':=h.at' }
def dq(P:Program)(mu:Tmp->Bool)(h0:Heap)(bk:Nat->Bool)(ops:Array Oper)(fl:Bool)(l:List (Nat×Fl))(K:Frm->Heap->Prop)(fr:Frm)(h:Heap):Prop:=
 match alN l with
 |0=>nk P mu h0 bk ops fl l K fr h
 |m+1=>h0.next=h.next/\nk P mu h0 bk ops fl l K fr (h.bump (m+1))
def aM{mu:Tmp->Bool}{ops:Array Oper}{fl:Bool}{l:List (Nat×Fl)}{K:Frm->Heap->Prop}(a:alN l=0):dq P mu h0 bk ops fl l K fr h=nk P mu h0 bk ops fl l K fr h:=by
 unfold dq;rw[a]
def HE{mu:Tmp->Bool}{ops:Array Oper}{fl:Bool}{l:List (Nat×Fl)}{K:Frm->Heap->Prop}{m:Nat}(a:alN l=m+1):dq P mu h0 bk ops fl l K fr h=(h0.next=h.next/\nk P mu h0 bk ops fl l K fr (h.bump (m+1))):=by
 unfold dq;rw[a]
section
variable{P:Program}{mu:Tmp->Bool}{h0:Heap}{ops:Array Oper}
theorem fQ{o:Op}{K a:D->Heap->Prop}(b:∀d h,K d h->a d h)(k:rF P m nid o ev h K):rF P m nid o ev h a:=by grind [rF,Za.mono]
theorem cY{st:Fl}{K a:D->Heap->Prop}(b:∀d h,K d h->a d h)(k:ux P mu h0 st ops o fr h K):ux P mu h0 st ops o fr h a:=by
 unfold ux at k⊢;split at k
 ·exact b _ _ k
 ·split at k
  ·grind
  ·obtain⟨k0,S,k1,k2,k3⟩:=k;exact⟨k0,S,k1,k2,λd q=>b _ _ (k3 d q)⟩
  all_goals grind [fQ]
def HO{o:Op}{ev d:Operand->D}(f:∀x∈o.operands.toList,ev x=d x):vop P m nid o ev h=vop P m nid o d h:=by
 have a:∀e:Array (Nat×Operand),(∀p∈e.toList,ev p.2=d p.2)->(e.toList.map λp=>(p.1,ev p.2))=(e.toList.map λp=>(p.1,d p.2)):=λe i=>
  wL λp q=>by rw[i p q]
 cases o<;>simp only[Op.operands]at f<;>simp only[vop]
 case build t e=>rw[a e λp i=>f p.2 (by simp;exact⟨p.1,by simpa using i⟩)]
 case buildSlice t n e=>rw[a e λp i=>f p.2 (by simp;exact⟨p.1,by simpa using i⟩)]
 case makeFunc g x y=>
  rw[wL (l:=x.toList) λz j=>f z (by simp;exact .inl (by simpa using j)),wL (l:=y.toList) λz j=>f z (by simp;exact .inr (by simpa using j))]
 case call c=>
  split
  ·rename_i b k;rw[wL (l:=c.args.toList) λz j=>f z (by simp[Call.operands,k];simpa using j)]
  ·rfl
 case slice t x lo hi mx=>cases lo<;>cases hi<;>cases mx<;>simp_all
 all_goals(first|rfl|(simp_all;done)|(simp only[zw,qt,pj,forall_eq_or_imp,forall_eq]at f;simp_all;done))
def ZS{o:Op}{ev b:Operand->D}(d:∀x∈o.operands.toList,ev x=b x):rF P m nid o ev h K=rF P m nid o b h K:=by
 unfold rF;rw[HO d];split
 ·rename_i f args a;unfold u0 at a;split at a
  ·rename_i c;split at a
   ·rename_i g e;cases a;rw[d f (by simp[Op.operands,Call.operands,e]),wL (l:=c.args.toList) λz i=>d z (by simp[Op.operands,Call.operands,e];first|exact .inl (by simpa using i)|exact .inr (by simpa using i))]
   ·cases a
  ·cases a
 ·rfl
def FA{dst:Option Tmp}{x:Operand}(h:∀t,dst=some t->x≠ .tmp t):wE (nf fr dst d) x=wE fr x:=by
 cases dst with
 |none=>rfl
 |some t=>
  cases x with
  |tmp u=>
   grind [wE,nf]
  |_=>rfl
def PN{dst:Option Tmp}(h:∀t,dst=some t->t∉o.looksAt ops):uk ops (nf fr dst d) o.guard=uk ops fr o.guard:=by
 cases dst with
 |none=>rfl
 |some t=>
  unfold uk;cases f:o.guard with
  |none=>rfl
  |some c=>
   obtain⟨g,b⟩:=c;simp only;cases i:(ops[g]?).bind (·.dst)with
   |none=>rfl
   |some u=>
    have a:u≠t:=λe=>h t rfl (by subst e;simp[Oper.looksAt,f,i]);simp[nf,a]
def Jb{dst:Option Tmp}(h:∀t,dst=some t->t∉o.looksAt ops):∀x∈o.op.operands.toList,wE (nf fr dst d) x=wE fr x:=λx c=>
 FA λt b a=>h t b (by
  subst a;exact tK _ (List.mem_filterMap.2 ⟨.tmp t,by simpa using c,rfl⟩))
def My{o:Op}{ev a:Operand->D}(b:∀x∈o.operands.toList,ev x=a x):Hr P h0 o ev d=Hr P h0 o a d:=by
 unfold Hr;simp only[ZS b]
def Qj{o:Op}{ev a:Operand->D}{S:D->Prop}(b:∀x∈o.operands.toList,ev x=a x):Mx P h0 o ev S=Mx P h0 o a S:=by
 unfold Mx;simp only[ZS b]
theorem lO{st:Fl}{dst:Option Tmp}(a:∀t,dst=some t->t∉o.looksAt ops):ux P mu h0 st ops o (nf fr dst d) h K=ux P mu h0 st ops o fr h K:=by
 unfold ux;rw[PN a];simp only[My (Jb a),Qj (Jb a),ZS (Jb a)]
def IW{x y:Option Tmp}{d e:D}(h:∀t,x=some t->y≠some t):nf (nf fr x d) y e=nf (nf fr y e) x d:=by
 cases x with
 |none=>rfl
 |some t=>
  cases y with
  |none=>rfl
  |some u=>
   have a:t≠u:=λc=>h t rfl (c▸rfl)
   funext i
   simp only[nf];by_cases h1:i=t
   ·have b:i≠u:=λe=>a (h1.symm.trans e);rw[ip h1,iq b,ip h1]
   ·rw[iq h1,iq h1]
def rq(P:Program)(m:Bool)(o:Op):Bool:=
 match o with
 |.move _|.assign _|.pick _ _ _|.build _ _|.nilCheck _|.binOp _ _ _ _ _|.unOp _ _ _|.makeFunc _ _ _|.fieldAddr _ _ _|.field _ _ _|.indexAddr _ _ _|.index _ _ _|.extract _ _|.makeInterface _ _=>true
 |.convert s _ _=> !zLt P s
 |.box _ _|.buildSlice _ _ _|.makeSlice _ _ _=> !m
 |.slice t _ _ _ _=>(Wt P t).isNone
 |.call c=>match c.callee with
  |.builtin .len|.builtin .min|.builtin .max|.builtin .unsafeSliceData=>true
  |_=>false
 |_=>false
def mH(P:Program)(o:Op):Bool:=
 match o with
 |.load _ _|.lookup _ _ _ _|.slice _ _ _ _ _=>true
 |_=>false
variable{P:Program}
def QT{s d:TypeId}(a:zLt P s=false):∃r:Option D,∀h,aL P s d x h=r:=by
 cases x with
 |ptr id off=>
  refine⟨none,λh=> ?_⟩
  grind [aL,HD,zLt]
 |_=>exact⟨_,λ_=>rfl⟩
def mX{o:Op}(e:rq P m o=true):∃r:Option D,∀nid h,vop P m nid o ev h=r.map (·,h):=by
 have ite:∀(c:Prop)[Decidable c](d:D),∃r:Option D,∀(nid:Nat)(h:Heap),(if c then some (d,h)else none)=r.map (·,h):=λc _ d=>by
  by_cases f:c
  ·exact⟨some d,λ_ h=>by rw[ip f];rfl⟩
  ·exact⟨none,λ_ h=>by rw[iq f];rfl⟩
 cases o<;>simp only[rq]at e<;>(try (cases e;done))<;>simp only[vop]
 case move x=>exact⟨some (ev x),λ_ _=>rfl⟩
 case assign x=>exact⟨some (ev x),λ_ _=>rfl⟩
 case pick c a b=>
  split
  ·exact⟨some _,λ_ _=>rfl⟩
  ·exact⟨some _,λ_ _=>rfl⟩
  ·exact⟨none,λ_ _=>rfl⟩
 case convert s d x=>
  obtain⟨r,hr⟩:=QT (P:=P) (s:=s) (d:=d) (x:=ev x) (by simpa using e);exact⟨r,λ_ h=>by rw[hr]⟩
 case box t x=>
  cases m with
  |true=>cases e
  |false=>simpa using ite _ _
 case buildSlice t n ps=>
  cases m with
  |true=>cases e
  |false=>
   unfold yB;split
   ·exact⟨none,λ_ _=>rfl⟩
   ·split
    ·exact⟨none,λ_ _=>rfl⟩
    ·dsimp only
     split
     ·split
      ·exact⟨none,λ_ _=>rfl⟩
      ·exact⟨some _,λ_ _=>rfl⟩
     ·exact⟨none,λ_ _=>rfl⟩
 case makeSlice t l c=>
  cases m with
  |true=>cases e
  |false=>
   unfold tW;split
   ·split
    ·simp_all
    ·exact⟨none,λ_ _=>rfl⟩
   ·exact⟨none,λ_ _=>rfl⟩
 case makeFunc g x y=>
  split
  ·exact⟨some _,λ_ _=>rfl⟩
  ·exact⟨none,λ_ _=>rfl⟩
 case makeInterface t x=>exact ite _ _
 case slice t x lo hi mx=>
  have j:Wt P t=none:=by simpa using e
  exact⟨_,λ_ _=>by rw[uZ,j]⟩
 case call c=>
  split
  ·rename_i b i;rw[i]at e;unfold mS;cases b<;>simp only at e<;>(try (cases e;done))
   ·dsimp only
    split
    ·split
     ·exact⟨_,λ_ _=>rfl⟩
     ·exact⟨none,λ_ _=>rfl⟩
    ·exact⟨none,λ_ _=>rfl⟩
   ·dsimp only
    split
    ·exact⟨_,λ_ _=>rfl⟩
    ·exact⟨none,λ_ _=>rfl⟩
   ·dsimp only
    split
    ·exact⟨_,λ_ _=>rfl⟩
    ·exact⟨none,λ_ _=>rfl⟩
   ·dsimp only
    split
    ·split
     ·split
      ·split
       ·exact⟨none,λ_ _=>rfl⟩
       ·exact⟨some _,λ_ _=>rfl⟩
       ·exact⟨none,λ_ _=>rfl⟩
      ·exact⟨some _,λ_ _=>rfl⟩
      ·exact⟨none,λ_ _=>rfl⟩
     ·exact⟨none,λ_ _=>rfl⟩
    ·exact⟨none,λ_ _=>rfl⟩
  ·grind
 all_goals exact⟨_,λ_ _=>rfl⟩
def Xt{o:Op}(a:mH P o=true):∃r:Heap->Option D,∀nid h,vop P m nid o ev h=(r h).map (·,h):=by
 cases o<;>simp only[mH]at a<;>(try (cases a;done))<;>simp only[vop]
 ·exact⟨λh=>_,λ_ _=>rfl⟩
 ·exact⟨λh=>_,λ_ _=>rfl⟩
 ·exact⟨λh=>_,λ_ _=>rfl⟩
theorem lr{o:Op}(a:rq P m o=true):u0 o=none:=by
 cases o<;>simp only[rq]at a<;>(try (cases a;done))<;>simp only[u0]
 grind
def Y4{o:Op}(a:mH P o=true):u0 o=none:=by
 cases o<;>simp only[mH]at a<;>(try (cases a;done))<;>rfl
end
section
variable{P:Program}{mu:Tmp->Bool}{h0:Heap}{ops:Array Oper}
def clo(ops:Array Oper):Nat->Nat->Nat->Bool
 |0,_,_=>false
 |n+1,i,j=>match ops[i]? with
  |none=>false
  |some o=>o.after.any λe=>Region.binds .any e&&(e.on==j||clo ops n e.on j)
def V4:Op->Bool
 |.alloc _=>true
 |_=>false
def Ti(P:Program)(mu:Tmp->Bool)(j i:Fl)(oj oi:Oper):Bool:=
 match j with
 |.al k=>V4 oj.op&&(i.isS1||rq P (ar mu oi.dst) oi.op||(match i with
  |.al k'=>V4 oi.op&&k !=k'
  |_=>false))
 |_=>false
def Mc(j i:Fl)(oi:Oper):Bool:=j.isSq&&i.isNo&&(u0 oi.op).isNone
def dj(P:Program)(mu:Tmp->Bool)(ops:Array Oper)(j i:Nat×Fl):Bool:=
 match ops[j.1]?,ops[i.1]? with
 |some oj,some oi=>oj.apart ops oi&&(j.2.isS1||rq P (ar mu oj.dst) oj.op||(j.2.isNo&&mH P oj.op&&(i.2.isS1||i.2.isQu||rq P (ar mu oi.dst) oi.op||mH P oi.op))||Ti P mu j.2 i.2 oj oi||Mc j.2 i.2 oi)
 |_,_=>false
def Up(P:Program)(mu:Tmp->Bool)(ops:Array Oper):List (Nat×Fl)->Bool
 | []=>true
 |j::rest=>rest.all (λi=>clo ops ops.size i.1 j.1||dj P mu ops j i)&&Up P mu ops rest
def TH(ops:Array Oper):List (Nat×Fl)->Bool
 | []=>true
 |j::rest=>(match ops[j.1]? with
  |none=>false
  |some o=>o.after.all λe=> !Region.binds .any e||(decide (e.on<ops.size)&&e.on !=j.1&&rest.all λi=>e.on !=i.1))&&TH ops rest
def J1(ms:List Nat)(i:Nat)(o:Oper):Nat:=o.after.toList.foldl (λa e=>if Region.binds .any e&&decide (e.on<i)then a |||(ms.getD (i-1-e.on) 0 |||2^e.on)else a) 0
def YA:List Oper->Nat->List Nat->List Nat
 | [],_,ms=>ms
 |o::rest,i,ms=>YA rest (i+1) (J1 ms i o::ms)
def R5(P:Program)(ms:List Nat)(n:Nat)(mu:Tmp->Bool)(ops:Array Oper):List (Nat×Fl)->Bool
 | []=>true
 |j::rest=>rest.all (λi=>(decide (i.1<n)&&Nat.testBit (ms.getD (n-1-i.1) 0) j.1)||dj P mu ops j i)&&R5 P ms n mu ops rest
def He(P:Program)(mu:Tmp->Bool)(ops:Array Oper)(l:List (Nat×Fl))(ms:List Nat)(i:Nat):Bool:=
 match ops[i]? with
 |none=>false
 |some o=> !rq P (ar mu o.dst) o.op&& !mH P o.op&&l.all λj=>(!j.2.isSt||(j.1 !=i&&(decide (i<ops.size)&&Nat.testBit (ms.getD (ops.size-1-i) 0) j.1)))&&(j.1 !=i|| !j.2.isAl)
def zIk(ops:Array Oper)(l:List (Nat×Fl)):Bool:=
 match alN l with
 |0=>true
 |_+1=>ops.toList.all (λo=>(u0 o.op).isNone)&&l.all λx=>l.all λy=>match x.2 with
  |.al k=>match y.2 with
   |.al k'=>k !=k'||x.1==y.1
   |_=>true
  |_=>true
def JX(P:Program)(mu:Tmp->Bool)(ops:Array Oper)(l:List (Nat×Fl)):Bool:=
 (List.range ops.size).all (λi=>(l.map (·.1)).contains i)&&l.length==ops.size&&decide ((l.map (·.1)).Nodup)&&R5 P (YA ops.toList 0 []) ops.size mu ops l&&TH ops l&&zIk ops l
theorem YH:∀{n m i j:Nat},n<=m->clo ops n i j=true->clo ops m i j=true
 |0,_,_,_,_,h=>by simp[clo]at h
 |n+1,0,_,_,c,_=>by omega
 |n+1,m+1,i,j,c,h=>by
  simp only[clo]at h⊢;split at h
  ·cases h
  ·simp only[lW,zF,qB]at h⊢;obtain⟨e,b,a,h⟩:=h;exact⟨e,b,a,h.imp id (YH ow)⟩
theorem RX{c:α->Bool}{f:α->Nat} :∀(l:List α)(a:Nat),Nat.testBit (l.foldl (λa e=>if c e then a |||f e else a) a) j=true->Nat.testBit a j=true\/∃e∈l,c e=true/\Nat.testBit (f e) j=true
 | [],a,h=>.inl h
 |e::l,a,h=>by
  rcases RX l _ h with h| ⟨b,h1,d⟩
  all_goals grind
theorem aq:∀(rest pre:List Oper)(ms:List Nat),ops.toList=pre++rest->ms.length=pre.length->(∀k,k<pre.length->∀j,Nat.testBit (ms.getD (pre.length-1-k) 0) j=true->clo ops (k+1) k j=true)->
  ∀k,k<ops.size->∀j,Nat.testBit ((YA rest pre.length ms).getD (ops.size-1-k) 0) j=true->clo ops (k+1) k j=true
 | [],pre,ms,i,m,g,k,l,j,h=>by grind [clo,YA]
 |o::rest,pre,ms,i,m,g,k,l,j,h=>by
  have p:ops[pre.length]? =some o:=by rw[<-qn,i];simp
  have a:(pre++ [o]).length=pre.length+1:=by simp
  refine aq rest (pre++ [o]) (J1 ms pre.length o::ms) (by rw[i];simp) (by rw[a,zm,m]) (λk' b q h'=> ?_) k l j (by rw[a];exact h);rw[a]at b h';by_cases d:k'=pre.length
  ·subst d;rw[show pre.length+1-1-pre.length=0 by omega,List.getD_cons_zero,J1]at h';rcases RX (c:=λe=>Region.binds .any e&&decide (e.on<pre.length)) (f:=λe=>ms.getD (pre.length-1-e.on) 0 |||2^e.on) (j:=q) o.after.toList 0 h' with h'| ⟨e,h1,n,h3⟩
   ·simp at h'
   ·simp only[zF,zO]at n;simp only[clo,p,lW,zF,qB,qN]
    grind [YH]
  ·grind
theorem VL(a:∀k,k<ops.size->∀j,Nat.testBit (os.getD (ops.size-1-k) 0) j=true->clo ops (k+1) k j=true):∀(l:List (Nat×Fl)),R5 P os ops.size mu ops l=true->Up P mu ops l=true
 | [],_=>rfl
 |j::rest,h=>by
  simp only[R5,Up,zF,zo,qB,zO]at h⊢;refine⟨λi b=> ?_,VL a rest h.2⟩
  grind [YH]
def LP{l:List (Nat×Fl)}(h:R5 P (YA ops.toList 0 []) ops.size mu ops l=true):Up P mu ops l=true:=
 VL (λk a j b=>aq ops.toList [] [] rfl rfl (λk a=>by simp at a) k a j b) l h
theorem TI{st:Fl}{k:D->Heap->Prop}(b:(st.isS1||rq P (ar mu o.dst) o.op)=true)(a:ux P mu h0 st ops o fr h k):
  ∃d,k d h/\∀(h':Heap)(k':D->Heap->Prop),k' d h'->ux P mu h0 st ops o fr h' k':=by
 unfold ux at a⊢;split at a
 ·grind
 ·cases st with
  |st=>
   grind
  |sq=>
   grind [Fl.isS1,lr]
  |no=>
   unfold rF at a⊢;rw[lr b]at a⊢;obtain⟨r,hr⟩:=mX (P:=P) (ev:=wE fr) b;simp only[hr]at a⊢;cases r with
   |none=>exact a.elim
   |some d=>exact⟨d,a,λh' k' c=>c⟩
  |qu=>
   unfold rF at a⊢;rw[lr b]at a⊢;obtain⟨r,hr⟩:=mX (P:=P) (ev:=wE fr) b;simp only[hr]at a⊢;cases r with
   |none=>exact a.elim
   |some d=>exact⟨d,a.2,λh' k' c=>⟨rfl,c⟩⟩
  |al i=>
   unfold rF at a⊢;rw[lr b]at a⊢;obtain⟨r,hr⟩:=mX (P:=P) (ev:=wE fr) b;simp only[hr]at a⊢;cases r with
   |none=>exact a.elim
   |some d=>exact⟨d,a,λh' k' c=>c⟩
def Hj(i:Nat):Option Obj->Heap->Heap
 |none,h=>h
 |some o,h=>h.new i o
def J8(c:i≠j)(x y:Option Obj)(h:Heap):Hj i x (Hj j y h)=Hj j y (Hj i x h):=by
 cases x with
 |none=>rfl
 |some a=>
  cases y with
  |none=>rfl
  |some b=>
   simp only[Hj,Heap.new,Heap.mk.injEq]
   grind
variable{h0:Heap}
def HLe.newO{x:Option Obj}(g:h0.at' i=none)(d:HLe h0 h):HLe h0 (Hj i x h):=by
 intro k f b;cases x with
 |none=>exact d k f b
 |some a=>
  have c:k≠i:=λe=>by rw[e,g]at b;cases b
  simp only[V.Hj,Heap.new,c,yy];exact d k f b
def HLe.of_newO{x:Option Obj}(f:h0.at' i=none)(d:HLe h0 (V.Hj i x h)):HLe h0 h:=by
 intro k e c;have:=d k e c;cases x with
 |none=>exact this
 |some a=>
  have b:k≠i:=by grind
  simpa only[V.Hj,Heap.new,b,yy]using this
def zGu{k:D->Heap->Prop}(e:V4 o.op=true)(a:ux P mu h0 (.al i) ops o fr h k):
  ∃d x,k d (Hj (h0.next+i) x h)/\∀(h':Heap)(k':D->Heap->Prop),k' d (Hj (h0.next+i) x h')->ux P mu h0 (.al i) ops o fr h' k':=by
 unfold ux at a⊢;split at a
 ·exact⟨_,none,a,λh' k' b=>by simpa [Hj]using b⟩
 ·simp only at a⊢;unfold rF at a⊢;obtain⟨dst,op,ty,pos,after,gd⟩:=o;cases op<;>simp only[V4]at e<;>(try (cases e;done))
  simp only[u0,vop]at a⊢;cases f:tJ P _ with
  |none=>rw[f]at a;exact a.elim
  |some z=>
   rw[f]at a;simp only at a⊢;cases c:z.notTuple with
   |false=>rw[c]at a;exact a.elim
   |true=>
    rw[c]at a;exact⟨_,some (ax _ z.cells),a,λh' k' b=>by simpa [Hj]using b⟩
def zL0{k k':D->Heap->Prop}(a:∀d,k d h->k' d h)(b:ux P mu h0 .qu ops o fr h k):ux P mu h0 .qu ops o fr h k':=by grind [ux,fQ]
def zL1{k k':D->Heap->Prop}(b:∀d,k d h->k' d h)(a:ux P mu h0 .sq ops o fr h k):ux P mu h0 .sq ops o fr h k':=by
 unfold ux at a⊢;split at a
 ·exact b _ a
 ·exact⟨a.1,a.2.imp λS x=>⟨x.1,x.2.1,λd q=>b _ (x.2.2 d q)⟩⟩
theorem HB{k:D->Heap->Prop}(c:mH P o.op=true)(a:ux P mu h0 .no ops o fr h k):
  ∃d,k d h/\∀(k':D->Heap->Prop),k' d h->ux P mu h0 .no ops o fr h k':=by
 unfold ux at a⊢;split at a
 ·grind
 ·simp only at a⊢;unfold rF at a⊢;rw[Y4 c]at a⊢;obtain⟨r,hr⟩:=Xt (P:=P) (m:=ar mu o.dst) (ev:=wE fr) c;simp only[hr]at a⊢;cases b:r h with
  |none=>rw[b]at a;exact a.elim
  |some d=>rw[b]at a;exact⟨d,a,λk' e=>e⟩
theorem L9{k:D->Heap->Prop}(c:mH P o.op=true)(a:ux P mu h0 (.al i) ops o fr h k):
  ∃d,k d h/\∀(k':D->Heap->Prop),k' d h->ux P mu h0 (.al i) ops o fr h k':=by
 unfold ux at a⊢;split at a
 ·grind
 ·simp only at a⊢;unfold rF at a⊢;rw[Y4 c]at a⊢;obtain⟨r,hr⟩:=Xt (P:=P) (m:=ar mu o.dst) (ev:=wE fr) c;simp only[hr]at a⊢;cases b:r h with
  |none=>rw[b]at a;exact a.elim
  |some d=>rw[b]at a;exact⟨d,a,λk' e=>e⟩
def HC{k:D->Heap->Prop} :ux P mu h0 .sq ops o fr h k↔(uk ops fr o.guard=false/\k rD h)\/(uk ops fr o.guard=true/\(u0 o.op).isSome=true/\∃S:D->Prop,(∃e,S e)/\Mx P h0 o.op (wE fr) S/\∀d,S d->k d h):=by
 unfold ux;cases uk ops fr o.guard<;>simp
def zGv{k:D->Heap->Prop}(b:u0 o.op=none)(a:ux P mu h0 .no ops o fr h k):
  ∃d h',k d h'/\∀k',ux P mu h0 .no ops o fr h k'↔k' d h':=by
 unfold ux at a⊢;split at a
 all_goals grind [rF,vop,ar,wE]
def zA0{z fl2:Bool}(B:fl2=true->z=true){j i:Nat×Fl}(hz:j.2.isAl=true->∀k,h0.at' (h0.next+k)=none){m f:Oper}(Z:ops[j.1]? =some m)(Y:ops[i.1]? =some f)(s:dj P mu ops j i=true){X:Frm->Heap->Prop}
  (p:ux P mu h0 j.2 ops m fr h λe h'=>(z=true->HLe h0 h')/\ux P mu h0 i.2 ops f (nf fr m.dst e) h' λd b=>(fl2=true->HLe h0 b)/\X (nf (nf fr m.dst e) f.dst d) b):
  ux P mu h0 i.2 ops f fr h λd h'=>(fl2=true->HLe h0 h')/\ux P mu h0 j.2 ops m (nf fr f.dst d) h' λe b=>(fl2=true->HLe h0 b)/\X (nf (nf fr f.dst d) m.dst e) b:=by
 unfold dj at s;rw[Z,Y]at s;simp only[zF]at s;obtain⟨G,s⟩:=s;obtain⟨w,T,q⟩:=Oper.apart_spec G;have F:∀t,m.dst=some t->f.dst≠some t:=T;have go:∀d e b,((fl2=true->HLe h0 b)/\X (nf (nf fr m.dst e) f.dst d) b)->(fl2=true->HLe h0 b)/\X (nf (nf fr f.dst d) m.dst e) b:=λd e b o=>by
  rw[IW F]at o;exact o
 by_cases g:Mc j.2 i.2 f=true
 ·unfold Mc at g;simp only[zF,Option.isNone_iff_eq_none]at g;obtain⟨⟨Q,R⟩,q3⟩:=g;have I:i.2=.no:=by
   cases n:i.2<;>rw[n]at R<;>first|rfl|cases R
  have r:j.2=.sq:=by
   cases n:j.2<;>rw[n]at Q<;>first|rfl|cases Q
  rw[I,r]at p⊢;rcases HC.1 p with⟨H,p⟩ | ⟨H,k0,S,⟨K,A⟩,V,M⟩
  ·rw[lO w]at p;refine cY (λd h' o=>⟨o.1,?_⟩) p.2;rw[lO q];exact HC.2 (.inl ⟨H,go _ _ _ o⟩)
  ·have C:=(M K A).2;rw[lO w]at C;obtain⟨d,h1,U,L⟩:=zGv q3 C;rw[L];refine⟨U.1,?_⟩;rw[lO q];refine HC.2 (.inr ⟨H,k0,S,⟨K,A⟩,V,λe W=> ?_⟩);have D:=(M e W).2;rw[lO w,L]at D;exact go _ _ _ D
 by_cases hq:(j.2.isS1||rq P (ar mu m.dst) m.op)=true
 ·grind [TI,lO,cY]
 ·by_cases c:Ti P mu j.2 i.2 m f=true
  ·obtain⟨jn,jf⟩:=j;obtain⟨ad,N⟩:=i;unfold Ti at c;cases jf<;>simp only at c<;>(try (cases c;done))
   rename_i kj;simp only[zF]at c;obtain⟨p1,O⟩:=c;have v:=hz rfl;obtain⟨e,x,⟨k1,k2⟩,k3⟩:=zGu p1 p;rw[lO w]at k2;by_cases l:(N.isS1||rq P (ar mu f.dst) f.op)=true
   ·obtain⟨d,k4,k5⟩:=TI l k2;refine k5 h _ ⟨λe=>HLe.of_newO (v _) (k4.1 e),?_⟩;rw[lO q];exact k3 _ _ (go _ _ _ k4)
   ·rw[qB]at O;have E:=O.resolve_left l;cases N<;>simp only at E<;>(try (cases E;done))
    rename_i ki;simp only[zF,fX,ne_eq]at E;obtain⟨d,y,k4,k5⟩:=zGu E.1 k2;rw[J8 (λe=>E.2 ow)]at k4;refine k5 h _ ⟨λe=>HLe.newO (v _) (HLe.of_newO (v _) (k1 (B e))),?_⟩;rw[lO q];exact k3 _ _ (go _ _ _ k4)
  have u:(j.2.isNo&&mH P m.op&&(i.2.isS1||i.2.isQu||rq P (ar mu f.dst) f.op||mH P f.op))=true:=by
   rw[qB,qB,qB]at s;exact((s.resolve_right g).resolve_right c).resolve_left hq
  simp only[zF]at u;obtain⟨⟨a,J⟩,u⟩:=u;have r:j.2=.no:=by
   cases n:j.2 with
   |no=>rfl
   |st=>rw[n]at a;cases a
   |sq=>rw[n]at a;cases a
   |qu=>rw[n]at a;cases a
   |al k=>rw[n]at a;cases a
  rw[r]at p⊢;obtain⟨e,⟨k1,k2⟩,k3⟩:=HB J p;rw[lO w]at k2;by_cases l:(i.2.isS1||rq P (ar mu f.dst) f.op)=true
  ·obtain⟨d,k4,k5⟩:=TI l k2;refine k5 h _ ⟨λe=>k1 (B e),?_⟩;rw[lO q];exact k3 _ (go _ _ _ k4)
  ·cases n:i.2 with
   |st=>rw[n]at l;exact absurd rfl l
   |sq=>
    rw[n]at k2;refine zL1 (λd o=>⟨o.1,?_⟩) k2;rw[lO q];exact k3 _ (go _ _ _ o)
   |qu=>
    rw[n]at k2;refine zL0 (λd o=>⟨o.1,?_⟩) k2;rw[lO q];exact k3 _ (go _ _ _ o)
   |no=>
    grind [mH,Fl.isS1,Fl.isQu,HB,lO]
   |al ki=>
    grind [Fl.isS1,Fl.isQu,L9,lO]
def Kg{l:List (Nat×Fl)}{y:Nat×Fl}(i:y∈l)(d:He P mu ops l os y.1=true)(x:Nat×Fl):dj P mu ops y x=false:=by
 unfold He at d;unfold dj;cases e:ops[y.1]? with
 |none=>rfl
 |some o=>
  rw[e]at d;have b:y.2.isSt=false:=by grind
  have c:y.2.isAl=false:=by grind
  cases ops[x.1]? with
  |none=>rfl
  |some f=>
   have g:Ti P mu y.2 x.2 o f=false:=by
    unfold Ti;cases a:y.2<;>simp only;rw[a]at c;cases c
   have h:y.2.isS1=false/\y.2.isSq=false:=by
    cases a:y.2<;>rw[a]at b<;>first|exact⟨rfl,rfl⟩ |cases b
   grind [Mc]
def H6{l:List (Nat×Fl)}{z:Nat×Fl}(a:He P mu ops l (YA ops.toList 0 []) i=true)(e:z∈l)(c:z.2.isSt=true):clo ops ops.size i z.1=true:=by
 unfold He at a;split at a
 ·cases a
 ·simp only[zF,qM,zo,qB,fX,ne_eq,zO]at a;rcases(a.2 z e).1 with b|b
  ·rw[c]at b;cases b
  ·exact YH ow (aq ops.toList [] [] rfl rfl (λk d=>by simp at d) i b.2.1 z.1 b.2.2)
theorem Ft{i:Nat×Fl}{m:Oper}{o:List (Nat×Fl)}{K:Frm->Heap->Prop}(n:ops[i.1]? =some m):∀(fl:Bool)(b:List (Nat×Fl))(fr:Frm)(h:Heap),(∀j∈b,dj P mu ops j i=true/\bk j.1=false/\(j.2.isAl=true->∀k,h0.at' (h0.next+k)=none))->
  nk P mu h0 bk ops fl (b++i::o) K fr h->ux P mu h0 i.2 ops m fr h λd h'=>((fl&& !bk i.1)=true->HLe h0 h')/\nk P mu h0 bk ops (fl&& !bk i.1) (b++o) K (nf fr m.dst d) h'
 |fl,[],fr,h,_,a=>by grind [nk]
 |fl,(j,s)::b,fr,h,c,a=>by
  simp only[yE,nk]at a;cases l:ops[j]? with
  |none=>rw[l]at a;exact a.elim
  |some r=>
   rw[l]at a;have g:bk j=false:=(c (j,s) (by simp)).2.1;simp only[g,nO,rx]at a;have h1:=cY (λe h' f=>And.intro f.1 (Ft n fl b (nf fr r.dst e) h' (λk q=>c k (by simp[q])) f.2)) a;have p:=zA0 (fl2:=fl&& !bk i.1) (λe=>by simp only[zF]at e;exact e.1) (j:=(j,s)) (c (j,s) (by simp)).2.2 l n (c (j,s) (by simp)).1 h1;refine cY (λd h' f=>⟨f.1,?_⟩) p
   grind [nk]
theorem W3{listed:Array Bool}(a:∀k o,ops[k]? =some o->listed.getD k true=true->∀e∈o.after,Region.binds .any e=true->listed.getD e.on false=true):
  ∀(n i j:Nat)(o:Oper),ops[i]? =some o->(∀e∈o.after,Region.binds .any e=true->listed.getD e.on false=true)->clo ops n i j=true->listed.getD j false=true
 |0,_,_,_,_,_,h=>by simp[clo]at h
 |n+1,i,j,o,l,m,h=>by
  simp only[clo,l,lW,zF,qB,qN]at h;obtain⟨e,g,f,h⟩:=h;have h1:=m e (by simpa using g) f;rcases h with h|h
  ·rw[<-h];exact h1
  ·cases b:ops[e.on]? with
   |none=>
    cases n with
    |zero=>simp[clo]at h
    |succ n=>simp[clo,b]at h
   |some c=>
    have d:listed.getD e.on true=true:=by grind
    exact W3 a n e.on j c b (a e.on c b d) h
end
theorem sQ(h:Heap)(i:Nat)(o:Obj):h.next<=(h.new i o).next:=Nat.le_max_left _ _
variable{P:Program}{h0:Heap}
def TM{e:TypeId}{s d:D}{ys:List D}(a:tp P m nid e sz k s ys h=some (d,h')):h.next<=h'.next:=by
 unfold tp at a;split at a
 ·grind [sQ]
 ·split at a
  ·split at a
   ·cases a
   ·grind [sQ]
   ·split at a
    ·split at a
     ·cases a
     ·cases a;exact sQ (h.del _) _ _
    ·cases a
  ·cases a
 ·split at a
  ·split at a
   ·split at a
    ·cases a;exact sQ (h.del _) _ _
    ·cases a
   ·split at a
    ·cases a
    ·split at a
     ·cases a;exact sQ (h.del _) _ _
     ·cases a
   ·cases a
  ·cases a
 ·cases a
def Zz{s x d:D}(a:qg P m nid t s x h=some (d,h')):h.next<=h'.next:=by
 unfold qg at a;split at a
 ·cases a
 ·split at a
  ·split at a
   ·cases a
   ·exact TM a
  ·cases a
def QR(s x:D)(h:Heap):(tu s x h).next=h.next:=by
 unfold tu;split
 ·split
  ·rfl
  ·split
   ·split<;>rfl
   ·rfl
 ·rfl
def TN{s x d:D}(a:mQ P m nid t s x h=some (d,h')):h.next<=h'.next:=by
 unfold mQ at a;split at a
 ·rw[<-QR s x h];exact Zz a
 ·exact Zz a
theorem WH{s x d:D}(a:mR P m nid t u s x h=some (d,h')):∃o,h'=h.new nid o:=by
 unfold mR at a;split at a
 ·split at a
  all_goals grind
 ·cases a
def TO{s x d:D}(a:mR P m nid t u s x h=some (d,h')):h.next<=h'.next:=by grind [WH,sQ]
def aR(a:jF P t x y h=some (d,h')):(∃id,x=.ptr id 0/\h'=h.del id)\/(x=.nilptr/\h'=h):=by
 unfold jF at a;split at a
 ·split at a
  ·split at a
   ·split at a
    all_goals grind [Yf]
   all_goals grind
  ·cases a
 ·cases a
def fP(a:uJ P t x y z h=some h'):h.next<=h'.next:=by
 unfold uJ at a;split at a
 ·cases a
 ·split at a
  ·split at a
   ·split at a
    ·split at a
     ·split at a
      ·cases a;exact zD _
      ·cases a
     ·cases a
    ·cases a
   ·cases a
  ·cases a
def QS(a:dp P t x h=some h'):h'=h\/(∃id sz off n cs,x=.rs id sz off n/\h'=h.set id (.row cs))\/∃id,x=.map id/\h'=h.set id (.map []):=by
 unfold dp at a;split at a
 all_goals grind
def P5(a:dp P t x h=some h'):h.next<=h'.next:=by
 rcases QS a with rfl| ⟨_,_,_,_,_,_,rfl⟩ | ⟨_,_,rfl⟩ <;>exact zD _
def Mp(a:Wk x b h=some (d,h')):h'=h\/∃id off o,x=.ptr id off/\h'=h.set id o:=by
 unfold Wk at a
 grind
def QX(a:Z1 P nid t x h=some (d,h')):∃o,h'=h.new nid o:=by
 unfold Z1 at a
 grind
def Mq{o:Op}(a:vop P m nid o ev h=some (d,h')):h.next<=h'.next:=by
 by_cases i:rq P m o=true
 ·obtain⟨r,hr⟩:=mX (P:=P) (ev:=ev) i;rw[hr]at a;obtain⟨e,_,f⟩:=wi a;cases f;exact zD _
 ·by_cases g:mH P o=true
  ·obtain⟨r,hr⟩:=Xt (P:=P) (m:=m) (ev:=ev) g;rw[hr]at a;obtain⟨e,_,f⟩:=wi a;cases f;exact zD _
  ·cases o<;>simp only[rq,mH]at i g<;>simp only[vop]at a<;>(try (exact absurd rfl i;done))<;>(try (exact absurd trivial i;done))<;>(try (exact absurd rfl g;done))<;>(try (exact absurd trivial g;done))<;>(try (cases a;done))
   case convert s d x=>
    obtain⟨e,_,f⟩:=wi a;cases f;exact zD _
   case alloc t=>
    split at a
    ·split at a
     ·cases a;exact sQ _ _ _
     ·cases a
    ·cases a
   case box t x=>
    split at a
    ·split at a
     ·cases a;exact sQ _ _ _
     ·cases a;exact zD _
    ·cases a
   case buildSlice t n ps=>
    unfold yB at a;split at a
    ·cases a
    ·split at a
     ·cases a
     ·dsimp only at a
      split at a
      ·split at a
       ·cases a
       ·split at a
        ·cases a;exact sQ _ _ _
        ·cases a;exact zD _
      ·cases a
   case store t x y=>
    obtain⟨e,h1,f⟩:=wi a;cases f;unfold yX at h1;split at h1
    ·split at h1
     ·split at h1
      ·cases h1;exact zD _
      ·cases h1
     ·split at h1
      ·cases h1;exact zD _
      ·cases h1
     ·cases h1
    ·cases h1
   case range t x=>obtain⟨o,rfl⟩:=QX a;exact sQ _ _ _
   case next x b=>rcases Mp a with rfl| ⟨_,_,_,_,rfl⟩ <;>exact zD _
   case makeMap t r=>
    split at a
    ·cases a;exact sQ _ _ _
    ·cases a
   case makeSlice t x y=>
    unfold tW at a;split at a
    ·split at a
     ·dsimp only at a
      split at a
      ·split at a
       ·cases a;exact sQ _ _ _
       ·cases a;exact zD _
      ·cases a
     ·cases a
    ·cases a
   case mapUpdate t x y z=>
    obtain⟨e,h1,f⟩:=wi a;cases f;exact fP h1
   case insert t x y z=>
    obtain⟨e,h1,f⟩:=wi a;cases f;exact fP h1
   case call c=>
    split at a
    ·rename_i b j;unfold mS at a;cases b<;>simp only at a<;>(try (cases a;done))
     all_goals(try (rw[j]at i;exact absurd rfl i))
     ·split at a
      ·split at a
       ·split at a
        ·exact TN a
        ·exact TO a
       ·cases a
      ·cases a
     ·split at a
      ·split at a
       ·split at a
        ·split at a
         ·cases a;exact zD _
         ·cases a
        ·cases a
       ·cases a
      ·cases a
     ·split at a
      ·split at a
       ·obtain⟨e,h1,f⟩:=wi a;cases f;exact P5 h1
       ·cases a
      ·cases a
     ·split at a
      ·split at a
       ·rcases aR a with⟨_,_,rfl⟩ | ⟨_,rfl⟩ <;>exact zD _
       ·cases a
      ·cases a
    ·cases a
def Fr(ro:Option Nat):Fence:= { fn:=λ_=>True,depth:=none,alive:=false,round:=ro }
structure Ctx(P:Program) where
 w0:Base
 G:List Nat
 M:Imm
 ρ:Ren
 good:Tf P w0
def Rw(b:Nat):Deferred:= { target:=.collected b,args:= #[] }
def St{P:Program}(c:Ctx P)(ms:List Nat)(n:Nat)(fr:Frm)(h:Heap)(a:Act)(w:World):Prop:=
 ∃M ρ,MLe c.M M/\RLe c.ρ ρ/\Sim c.w0 (ms++c.G) M ρ h w/\kU ρ h.next/\VX M ρ fr a.tmps/\a.defers=ms.map Rw/\a.tmps.size=n
def Z7(n:Nat):Option Tmp->Bool
 |some t=>decide (t<n)
 |none=>true
section
variable{P:Program}{mu:Tmp->Bool}{c:Ctx P}{ms:List Nat}{n:Nat}{fr:Frm}{h:Heap}{a:Act}{w:World}{Q:Exit->Act->World->Prop}{ro:Option Nat}{ops:Array Oper}
def Ya{t:Tmp}(hf:VX M ρ fr tmps)(hr:rel M ρ d v)(b:t<tmps.size):VX M ρ (nf fr (some t) d) (tmps.setIfInBounds t v):=by
 intro i;have a:=hf i;simp only[nf];by_cases h:i=t
 ·simp_all [Array.getD]
 ·simp only[h,yy]
  have:(tmps.setIfInBounds t v).getD i undef=tmps.getD i undef:=by
   simp only[uO,Array.getElem?_setIfInBounds_ne (jO h)]
  rw[this];exact a
def jC(hM:MLe M M')(hr:RLe ρ ρ')(hf:VX M ρ fr tmps):VX M' ρ' fr tmps:=λi=>to hM hr _ _ (hf i)
theorem St.put{dst:Option Tmp}(h:Z7 n dst=true)(h1:MLe c.M M)(e:RLe c.ρ ρ)(h3:Sim c.w0 (ms++c.G) M ρ h' w')(f:kU ρ h'.next)(h5:VX M ρ fr a.tmps)
  (g:a.defers=ms.map Rw) (b:a.tmps.size=n) (hr:rel M ρ d v):St c ms n (nf fr dst d) h' (a.put dst v) w':=by
 refine⟨M,ρ,h1,e,h3,f,?_,?_,?_⟩
 ·cases dst with
  |none=>exact h5
  |some t=>exact Ya h5 hr (by simpa [Z7,b]using h)
 ·cases dst<;>exact g
 ·cases dst with
  |none=>exact b
  |some t=>simpa [Act.put]using b
def Pi(hr:rel M ρ d (.bool b)):d=.bool b:=by
 cases d<;>simp only[rel]at hr
 case bool=>cases hr;rfl
 all_goals first
  |(cases hr;done)
  |(obtain⟨hr,_⟩:=hr;cases hr;done)
  |(obtain⟨_,hr,_⟩:=hr;cases hr;done)
  |(obtain⟨_,_,hr⟩:=hr;cases hr;done)
  |(obtain⟨_,_,hr,_⟩:=hr;cases hr;done)
  |(obtain⟨_,_,_,hr,_⟩:=hr;cases hr;done)
  |(obtain⟨_,_,_,_,_,⟨_,hr,_⟩,_⟩:=hr;cases hr;done)
  |(obtain⟨_,_,_,_,_,hr,_⟩:=hr;cases hr;done)
  |(obtain⟨_,_,_,_,_,_,hr,_⟩:=hr;cases hr;done)
theorem LX(hf:VX M ρ fr a.tmps):Region.wanted o (yielded ops a.tmps)=uk ops fr o.guard:=by
 unfold Region.wanted uk;cases o.guard with
 |none=>rfl
 |some h=>
  obtain⟨g,f⟩:=h;simp only;unfold yielded;cases i:(ops[g]?).bind (·.dst)with
  |none=>rfl
  |some t=>
   simp only[sw];have c:=hf t;rw[uO]at c;cases e:a.tmps[t]? with
   |none=>
    rw[e]at c;cases d:fr t with
    |bool b=>rw[d]at c;cases c
    |_=>rfl
   |some v=>
    rw[e]at c;cases v with
    |bool b=>rw[Pi c];simp[eq_comm]
    |_=>
     cases d:fr t with
     |bool b=>rw[d]at c;cases c
     |_=>rfl
def RS{g:FuncId}(a:pQ P g=true):∃fn,P.funcs[g]? =some fn/\fn.body.isSome=true/\(fn.name== "runtime.NumGoroutine")=false:=by grind [pQ]
def Zr{g:FuncId}(b:pQ P g=true)(args:Array Value)(w:World):(callFunc g args).run P w=.ok (.enter g args) w:=by
 obtain⟨fn,h1,d,h3⟩:=RS b;have c:(program).run P w=.ok P w:=rfl;have a:fn.body.isNone=false:=by simp_all
 simp only[callFunc,zx,c,zX,h1,h3,a,zl,yy,yN]
theorem St.op{k:D->Heap->Prop}{C:Act->World->Prop}(hs:St c ms n fr h a w)(q:PY o.op=true)(U:Z7 n o.dst=true)(b:rF P m h.next o.op (wE fr) h k)
  (I:∀d h' O p,St c ms n (nf fr o.dst d) h' O p->k d h'->C O p):o.wpIn (Fr ro) 0 P a w C Q:=by
 obtain⟨M,ρ,h1,R,h3,B,h5,S,T⟩:=hs;refine⟨λ_ _=>trivial,?_⟩;have J:∀c,o.op≠ .defer c:=by grind [rF,u0,vop]
 rw[Oper.semAt_eq _ _ _ J];unfold rF at b;split at b
 ·rename_i f args z;unfold u0 at z;split at z
  ·rename_i y x;split at z
   ·rename_i f' u;cases z;have r:C1 f=true/\y.args.toList.all C1=true:=by
     unfold PY at q;rw[x]at q;simp only[Op.operands,Call.operands,u]at q
     grind
    have K:=bm h5 r.1;have Y:wJ M ρ (y.args.toList.map (wE fr)) (y.args.map a.eval).toList:=by rw[ua];exact fC h5 r.2
    have post:∀e p,Ret c.w0 (ms++c.G) M ρ k e p->∃v,e=.returned v/\C (a.put o.dst v) p:=by
     rintro e p ⟨v,M',ρ',d,h',rfl,W,X,q3,q4,q5,q6⟩;exact⟨v,rfl,I d h' _ _ (St.put U (h1.trans W) (R.trans X) q3 q4 (jC W X h5) S T q5) q6⟩
    cases H:wE fr f<;>rw[H]at b K<;>simp only[Za]at b
    ·rename_i g first cap
     cases g<;>simp only at b;rename_i g;obtain⟨_,Z,vc,E,L,N⟩:=K;have j:(execOp a.eval o).run P w=.ok (.enter g (Z++y.args.map a.eval++vc)) w:=by
      simp only[execOp,x,resolve,u,E,Deferred.ofValue,zx,yN,zX,invoke,Zr b.1]
     rw[j];refine⟨λe=>(by cases e),?_⟩;have t:=b.2 c.w0 (ms++c.G) M ρ w (Z++y.args.map a.eval++vc) c.good h3 B (by simp only[mZ];exact tH (tH L Y) N);refine CallsIn.mono (F:=Fr ro) (n:=0-1) (Zg.2 t) λe p he=> ?_
     grind
    ·rename_i id;obtain⟨l,hl,E⟩:=K;obtain⟨g,tmps,as,body,y1,y2⟩:=b c.w0 (ms++c.G) M ρ w (y.args.map a.eval) l c.good h3 B Y hl;have j:(execOp a.eval o).run P w=.ok (.round l.blk g tmps as body) w:=by
      simp only[execOp,x,resolve,u,E,Deferred.ofValue,zx,yN,zX,invoke];simpa using y1
     rw[j];refine⟨λe=>(by cases e),?_⟩;refine RoundIn.mono (F:=Fr ro) (n:=0-1) y2 λe p he=> ?_
     grind
   ·cases z
  ·cases z
 ·split at b
  ·rename_i d h' s;obtain⟨nx,v,p,M',ρ',k1,k2,k3,k4,k5,k6,k7⟩:=C8 h3 (B h.next (zD _)) h5 q s;have A:St c ms n (nf fr o.dst d) h' (a.put o.dst v) p:=by
    refine St.put U (h1.trans k3) (R.trans k4) k6 (λi V=> ?_) (jC k3 k4 h5) S T k7;rw[k5 i (.inl V)];exact B i (zf (Mq s) V)
   rw[k1];rcases k2 with rfl| ⟨rfl,rfl⟩
   ·exact I d h' _ _ A b
   ·exact I d h' _ _ A b
  ·exact b.elim
end
def Pg(n:Nat)(ops:Array Oper):Bool:=ops.toList.all λo=>PY o.op&&Z7 n o.dst
section
variable{P:Program}{mu:Tmp->Bool}{c:Ctx P}{ms:List Nat}{n:Nat}{fr:Frm}{h h0:Heap}{a:Act}{w:World}{Q:Exit->Act->World->Prop}{ro:Option Nat}{ops:Array Oper}{fl:Bool}{K:Frm->Heap->Prop}
def Xu(a:Pg n ops=true)(b:ops[i]? =some o):PY o.op=true/\Z7 n o.dst=true:=by grind [Pg,PY,Z7]
def St.skip{dst:Option Tmp}(b:Z7 n dst=true)(d:St c ms n fr h a w):St c ms n (nf fr dst rD) h (a.put dst undef) w:=by grind [St.put,fE,Z7,St,nf,rD]
def St.wanted(b:St c ms n fr h a w):Region.wanted o (yielded ops a.tmps)=uk ops fr o.guard:=by grind [LX,St,uk]
theorem Vv(b : Pg n ops = true)(f : ∀ fr h a w, St c ms n fr h a w -> K fr h -> Q .normal a w) : ∀(rest pre : List Oper), ops.toList = pre ++ rest -> ∀ fr h a w, St c ms n fr h a w -> WT P mu ops rest K fr h ->
      wpOpsIn (Fr ro) 0 P ops Q (List.range' pre.length rest.length) a w
  | [], pre, _, fr, h, a, w, e, d => by
    exact f _ _ _ _ e d
  | o :: rest, pre, g, fr, h, a, w, e, d => by
    have i : ops[pre.length]? = some o := by rw [<- qn, g]; simp
    obtain ⟨k1, k2⟩ := Xu b i;have j := Vv b f rest (pre ++ [o]) (by simp [g]);rw [zR, t6]at j;rw [zm, List.range'_succ];simp only [wpOpsIn, i, e.wanted];simp only [WT]at d;cases hg : uk ops fr o.guard with
    | true =>
      grind [St.op]
    | false =>
      rw [hg]at d;exact ⟨λ_ _ => trivial, j _ _ _ _ (e.skip k2) d⟩
def StU{P:Program}(c:Ctx P)(U:Nat->Prop)(ms:List Nat)(n:Nat)(fr:Frm)(h:Heap)(a:Act)(w:World):Prop:=
 ∃M ρ,MLe c.M M/\RLe c.ρ ρ/\Sim c.w0 (ms++c.G) M ρ h w/\kU ρ h.next/\VX M ρ fr a.tmps/\a.defers=ms.map Rw/\a.tmps.size=n/\∀i,U i->i<h.next/\ρ i=none
def StU.st(b:StU c U ms n fr h a w):St c ms n fr h a w:=by grind [StU,St]
def St.stu(b:∀i,¬U i)(d:St c ms n fr h a w):StU c U ms n fr h a w:=by grind [St,StU]
def StU.less(b:∀i,S0 i->U i)(d:StU c U ms n fr h a w):StU c S0 ms n fr h a w:=by grind [StU]
def StU.skip{dst:Option Tmp}(i:Z7 n dst=true)(j:StU c U ms n fr h a w):StU c U ms n (nf fr dst rD) h (a.put dst undef) w:=by
 obtain⟨M,ρ,h1,d,h3,e,h5,f,b,g⟩:=j;refine⟨M,ρ,h1,d,h3,e,?_,?_,?_,g⟩
 ·cases dst with
  |none=>exact h5
  |some t=>exact Ya h5 fE (by simpa [Z7,b]using i)
 ·cases dst<;>exact f
 ·cases dst with
  |none=>exact b
  |some t=>simpa [Act.put]using b
def StU.op{k:D->Heap->Prop}{u:Act->World->Prop}(H:StU c U ms n fr h a w)(s:PY o.op=true)(A:Z7 n o.dst=true)(F:u0 o.op=none)(f:nid=h.next\/U nid)(e:rF P m nid o.op (wE fr) h k)
  (B:∀d h' x p,StU c (λi=>U i/\i≠nid) ms n (nf fr o.dst d) h' x p->k d h'->u x p):o.wpIn (Fr ro) 0 P a w u Q:=by
 obtain⟨M,ρ,h1,C,h3,y,h5,E,q,z⟩:=H;refine⟨λ_ _=>trivial,?_⟩;have r:∀c,o.op≠ .defer c:=by grind [rF,u0,vop]
 rw[Oper.semAt_eq _ _ _ r];unfold rF at e;rw[F]at e;simp only at e;split at e
 ·rename_i d h' b;have J:ρ nid=none:=by
   rcases f with rfl|I
   ·exact y _ (zD _)
   ·exact(z _ I).2
  obtain⟨L,v,p,M',K,k1,k2,k3,k4,k5,k6,k7⟩:=C8 h3 J h5 s b;have g:=Mq b;have j:StU c (λi=>U i/\i≠nid) ms n (nf fr o.dst d) h' (a.put o.dst v) p:=by
   refine⟨M',K,h1.trans k3,C.trans k4,k6,λi l=> ?_,?_,?_,?_,λi l=>⟨zq (z i l.1).1 g,?_⟩⟩
   ·rw[k5 i (.inl l)];exact y i (zf g l)
   ·cases G:o.dst with
    |none=>exact jC k3 k4 h5
    |some t=>exact Ya (jC k3 k4 h5) k7 (by rw[G]at A;simpa [Z7,q]using A)
   ·cases o.dst<;>exact E
   ·cases o.dst with
    |none=>exact q
    |some t=>simpa [Act.put]using q
   ·grind
  rw[k1];rcases k2 with rfl| ⟨rfl,rfl⟩
  ·exact B d h' _ _ j e
  ·exact B d h' _ _ j e
 ·exact e.elim
def A9(b:Nat)(l:List (Nat×Fl))(i:Nat):Prop:=∃x∈l,∃k,x.2=.al k/\i=b+k
def StU.ux{st:Fl}{k:D->Heap->Prop}{x:Act->World->Prop}(r:StU c U ms n fr h a w)(b:ops[i]? =some o)(u:Pg n ops=true)(C:st.isSt=true->HLe h0 h)(s:u0 o.op=none)(v:∀k,st=.al k->U (h0.next+k))(g:ux P mu h0 st ops o fr h k)
  (t:∀d h' m p,StU c (λi=>U i/\∀k,st=.al k->i≠h0.next+k) ms n (nf fr o.dst d) h' m p->k d h'->x m p):wpOpIn (Fr ro) 0 P ops Q i x a w:=by
 obtain⟨k1,k2⟩:=Xu u b;have q:∀i,U i->i<h.next:=λi b=>let ⟨_,_,_,_,_,_,_,_,_,h8⟩:=r;(h8 i b).1
 unfold wpOpIn;simp only[b,r.st.wanted];unfold V.ux at g;cases y:uk ops fr o.guard with
 |false=>
  rw[y]at g;simp only[zl,yy];exact⟨λ_ _=>trivial,t _ _ _ _ ((r.skip k2).less λi b=>b.1) g⟩
 |true=>
  rw[y]at g;simp only[qS];cases st with
  |no=>exact r.op k1 k2 s (.inl rfl) g λd h' m p f l=>t d h' m p (f.less λi b=>⟨b.1,λe=>ZZ (q i b.1) e⟩) l
  |qu=>
   refine r.op k1 k2 s (.inl rfl) g λz h' m p f l=> ?_;obtain⟨rfl,l⟩:=l;exact t _ _ _ _ (f.less λi b=>⟨b.1,λe=>ZZ (q i b.1) e⟩) l
  |st=>
   obtain⟨d,A,B⟩:=g;refine r.op k1 k2 s (.inl rfl) (A h (C rfl)) λz h' m p f l=> ?_;obtain⟨rfl,rfl⟩:=l;exact t _ _ _ _ (f.less λi b=>⟨b.1,λe=>ZZ (q i b.1) e⟩) B
  |sq=>rw[s]at g;cases g.1
  |al j=>
   exact r.op k1 k2 s (.inr (v j rfl)) g λd h' m p f l=>t d h' m p (f.less λi b=>⟨b.1,b.2 j rfl⟩) l
def St.ux{st:Fl}{k:D->Heap->Prop}{u:Act->World->Prop}(g:St c ms n fr h a w)(t:st.isAl=false)(y:ops[i]? =some o)(p:Pg n ops=true)(z:st.isSt=true->HLe h0 h)(f:ux P mu h0 st ops o fr h k)
  (m:∀d h' l q,St c ms n (nf fr o.dst d) h' l q->k d h'->u l q):wpOpIn (Fr ro) 0 P ops Q i u a w:=by
 obtain⟨k1,k2⟩:=Xu p y;unfold wpOpIn;simp only[y,g.wanted];unfold V.ux at f;cases x:uk ops fr o.guard with
 |false=>
  rw[x]at f;simp only[zl,yy];exact⟨λ_ _=>trivial,m _ _ _ _ (g.skip k2) f⟩
 |true=>
  rw[x]at f;simp only[qS];cases st with
  |no=>exact St.op g k1 k2 f m
  |qu=>
   refine St.op g k1 k2 f λv h' l q b e=> ?_;obtain⟨rfl,e⟩:=e;exact m _ _ _ _ b e
  |st=>
   obtain⟨d,r,s⟩:=f;refine St.op g k1 k2 (r h (z rfl)) λv h' l q b e=> ?_;obtain⟨rfl,rfl⟩:=e;exact m _ _ _ _ b s
  |sq=>
   obtain⟨_,S,_,r,s⟩:=f;refine St.op g k1 k2 (r h (z rfl)) λv h' l q b e=> ?_;obtain⟨e,rfl⟩:=e;exact m _ _ _ _ b (s _ e)
  |al j=>cases t
theorem R6{i:Nat×Fl}{c:List (Nat×Fl)} :∀{a:List (Nat×Fl)},Up P mu ops (a++i::c)=true->Up P mu ops (a++c)=true/\∀j∈a,(clo ops ops.size i.1 j.1||dj P mu ops j i)=true
 | [],b=>by grind [Up]
 |j::a,b=>by
  simp only[yE,Up,zF,uP,uv]at b⊢;obtain⟨⟨h1,g,h3⟩,d⟩:=b;obtain⟨e,f⟩:=R6 d
  grind
theorem QO{i:Nat×Fl}{c:List (Nat×Fl)} :∀{b:List (Nat×Fl)},TH ops (b++i::c)=true->TH ops (b++c)=true
 | [],a=>by grind [TH]
 |j::b,a=>by
  simp only[yE,TH,zF]at a⊢;refine⟨?_,QO a.2⟩;have h1:=a.1;cases d:ops[j.1]? with
  |none=>rw[d]at h1;cases h1
  |some o=>
   grind
def zBD(h0:Heap)(ops:Array Oper)(l:List (Nat×Fl)):Prop:=
 (∀x∈l,x.2.isAl=false)\/((∀(i:Nat)(o:Oper),ops[i]? =some o->u0 o.op=none)/\(∀x∈l,∀y∈l,∀k,x.2=.al k->y.2=.al k->x.1=y.1)/\∀k,h0.at' (h0.next+k)=none)
def zBD.less{l a:List (Nat×Fl)}(b:∀x∈a,x∈l):zBD h0 ops l->zBD h0 ops a
 :=by grind [zBD]
theorem P7{bk : Nat -> Bool}(L : Pg n ops = true)(hK : ∀ fr h a w, St c ms n fr h a w -> K fr h -> Q .normal a w) : ∀(fuel : Nat)(fl : Bool)(l : List (Nat × Fl))(listed : Array Bool)(fr : Frm)(h : Heap)(a : Act)(w : World),
      l.length <= fuel -> (l.map (·.1)).Nodup -> (∀ i, i < ops.size -> (listed.getD i true = false ↔ i ∈ l.map (·.1))) -> listed.size = ops.size ->
      (∀ k o, ops[k]? = some o -> listed.getD k true = true -> ∀ e ∈ o.after, Region.binds .any e = true -> listed.getD e.on false = true) ->
      Up P mu ops l = true -> TH ops l = true -> (fl = true -> HLe h0 h) -> (∀ x ∈ l, x.2.isSt = true -> fl = true) -> (∀ y ∈ l, bk y.1 = true -> ∀ x, dj P mu ops y x = false) -> (∀ x ∈ l, bk x.1 = true -> ∀ z ∈ l, z.2.isSt = true -> clo ops ops.size x.1 z.1 = true) -> zBD h0 ops l -> StU c (A9 h0.next l) ms n fr h a w -> nk P mu h0 bk ops fl l K fr h ->
      wpAnyIn (Fr ro) 0 P .any ops Q fuel listed a w := by
  have t : ∀(l : List (Nat × Fl))(listed : Array Bool)(j : Nat × Fl)(l' : List (Nat × Fl)), l = j :: l' -> (∀ i, i < ops.size -> (listed.getD i true = false ↔ i ∈ l.map (·.1))) -> listed.size = ops.size -> TH ops l = true -> j.1 ∈ Region.ready .any ops listed := by
    intro l listed j l' hl b u p;subst hl;simp only [TH, zF]at p;have h1 := p.1;cases H : ops[j.1]? with
    | none => rw [H]at h1; cases h1
    | some o =>
      rw [H]at h1;have C : j.1 < ops.size := (yJ.1 H).1;refine mem_ready.2 ⟨(b j.1 C).2 (by simp), o, H, λe he Y => ?_⟩;simp only [Array.all_eq_true', qB, qM, zF, zO]at h1
      grind
  intro fuel
  induction fuel with
  | zero =>
    intro fl l listed fr h a w I V b u s J p U S O ad f hs hv
    have : l = [] := yM.1 ow;subst this;refine ⟨?_, hK _ _ _ _ hs.st hv⟩;cases hr : Region.ready .any ops listed with
    | nil => rfl
    | cons i rs =>
      have T : i ∈ Region.ready .any ops listed := by rw [hr]; simp
      obtain ⟨h1, o, G, _⟩ := mem_ready.1 T;have := (b i (yJ.1 G).1).1 h1;simp at this
  | succ fuel ih =>
    intro fl l listed fr h a w I V b u s J p U S O ad f hs hv;refine ⟨λhr => ?_, λi T => ?_⟩
    · cases l with
      | nil => exact hK _ _ _ _ hs.st hv
      | cons j l' =>
        have := t _ listed j l' rfl b u p;rw [hr]at this; cases this
    · obtain ⟨h1, o, G, h3⟩ := mem_ready.1 T
      have C := (yJ.1 G).1;have hm := (b i C).1 h1;obtain ⟨x, hx, rfl⟩ := zM.1 hm;obtain ⟨v, F, rfl⟩ := List.append_of_mem hx;obtain ⟨o1, o2⟩ := R6 J;have ak : ∀ j : Nat × Fl, j ∈ v ++ x :: F -> clo ops ops.size x.1 j.1 = true -> False := λj H g => by
        have hl := W3 s ops.size x.1 j.1 o G h3 g;have A : j.1 < listed.size := by
          by_cases Y : j.1 < listed.size
          · exact Y
          · simp [Y]at hl
        have hf := (b j.1 ow).2 (zM.2 ⟨j, H, rfl⟩);simp [A]at hl hf;rw [hl]at hf; cases hf
      have a2 : ∀ j ∈ v, dj P mu ops j x = true /\ bk j.1 = false /\ (j.2.isAl = true -> ∀ k, h0.at' (h0.next + k) = none) := λj H => by
        have A : j ∈ v ++ x :: F := by simp [H]
        rcases qB _ _ ▸ o2 j H with g | g
        · exact (ak j A g).elim
        · refine ⟨g, ?_⟩
          refine ⟨?_, λha => ?_⟩
          · cases R : bk j.1 with
            | false => rfl
            | true => rw [O j A R x]at g; cases g
          · rcases f with f | f
            · rw [f j A]at ha; cases ha
            · exact f.2.2
      have Y := Ft G fl v fr h a2 hv;have D : ((v ++ F).map (·.1)).Nodup /\ x.1 ∉ (v ++ F).map (·.1) := by
        simp only [wH, qm]at V ⊢;have := (List.perm_middle (a := x.1) (l₁ := v.map (·.1)) (l₂ := F.map (·.1))).nodup_iff.1 V;exact ⟨(oI.1 this).2, (oI.1 this).1⟩
      have m : ∀ y, y ∈ v ++ F -> y ∈ v ++ x :: F := λy r => by simp at r ⊢; rcases r with r | r <;> simp [r]
      have pick : ∀{KC : Act -> World -> Prop}, (∀ d h' N X, StU c (A9 h0.next (v ++ F)) ms n (nf fr o.dst d) h' N X -> (((fl && !bk x.1) = true -> HLe h0 h') /\ nk P mu h0 bk ops (fl && !bk x.1) (v ++ F) K (nf fr o.dst d) h') -> KC N X) -> wpOpIn (Fr ro) 0 P ops Q x.1 KC a w := λB => by
        rcases f with f | ⟨m1, m2, m3⟩
        · exact St.ux hs.st (f x hx) G L (λe => U (S x hx e)) Y λd h' N X E Z => B d h' N X (E.stu λi T => by
            obtain ⟨y, r, k, B, _⟩ := T;have := f y (m y r);rw [B]at this; cases this) Z
        · exact StU.ux hs G L (λe => U (S x hx e)) (m1 _ _ G) (λk B => ⟨x, hx, k, B, rfl⟩) Y λd h' N X E Z => B d h' N X (E.less λi T => by
            obtain ⟨y, r, k, B, rfl⟩ := T;refine ⟨⟨y, m y r, k, B, rfl⟩, λk' au e => ?_⟩;have a0 : k = k' := by omega
            subst a0;exact D.2 (zM.2 ⟨y, r, m2 y (m y r) x hx k B au⟩)) Z
      refine pick λd h' N X E Z => ?_;refine ih _ (v ++ F) _ _ _ _ _ (by simp at I ⊢; omega) D.1 (λk B => ?_) (by simpa using u) (λk ok W ai e he ag => ?_) o1 (QO p) Z.1 (λy r a3 => ?_) (λy r => O y (m y r)) (λy r R z hz => ad y (m y r) R z (m z hz)) (f.less m) E Z.2
      · by_cases hkx : k = x.1
        · subst hkx
          have : (listed.setIfInBounds x.1 true).getD x.1 true = true := by simp [u, C]
          rw [this];constructor
          · intro e; cases e
          · intro e; exact absurd e D.2
        · rw [XO true (jO hkx), b k B]
          simp only [wH, qm, yp, zw];constructor
          · rintro (g | g | g)
            · exact .inl g
            · exact absurd g hkx
            · exact .inr g
          · rintro (g | g)
            · exact .inl g
            · exact .inr (.inr g)
      · have M : ∀ q, listed.getD q false = true -> (listed.setIfInBounds x.1 true).getD q false = true := λq a1 => by
          by_cases hqx : q = x.1
          · subst hqx; simp [u, C]
          · rw [XO false (jO hqx)]; exact a1
        by_cases hkx : k = x.1
        · subst hkx
          rw [G]at W; cases W;exact M _ (h3 e he ag)
        · rw [XO true (jO hkx)]at ai
          exact M _ (s k ok W ai e he ag)
      · grind
end
structure Cfg where
 mu:Tmp->Bool
 dr:Nat->List (Nat×Fl)
def cW(K:Frm->Heap->Prop)(Q:Exit->Frm->Heap->Prop)(e:Exit)(fr:Frm)(h:Heap):Prop:=
 match e with
 |.normal=>K fr h
 |e=>Q e fr h
def bC(id:Nat)(Q:Exit->Frm->Heap->Prop)(e:Exit)(fr:Frm)(h:Heap):Prop:=
 match e with
 |.exit i=>if i=id then Q .normal fr h else Q (.exit i) fr h
 |e=>Q e fr h
def zGi(Q:Exit->Frm->Heap->Prop)(e:Exit)(fr:Frm)(h:Heap):Prop:=
 match e with
 |.goto _=>False
 |e=>Q e fr h
def Wb(p:Option Code)(Q:Exit->Frm->Heap->Prop)(fr:Frm)(h:Heap):Prop:=
 match p with
 |none=>Q .normal fr h
 |some c=>match c with
  |.ret=>Q .ret fr h
  |.exit i=>Q (.exit i) fr h
  |_=>False
def VFn(P:Program)(f:D)(args:List D)(h:Heap)(Q:D->Heap->Prop):Prop:=
 match f with
 |.fn g first cap=>match g with
  |.func g=>zE P g (first++args++cap) h Q
  |_=>False
 |_=>False
def vwp(P:Program)(g:Cfg)(n:Nat)(ro:Option Nat):Code->(Exit->Frm->Heap->Prop)->Frm->Heap->Prop
  |.skip,Q,fr,h=>Q .normal fr h
  |.region id ops draw,Q,fr,h=>match draw with
    |false=>WT P g.mu ops ops.toList (Q .normal) fr h
    |true=>∃h0,HLe h0 h/\dq P g.mu h0 (He P g.mu ops (g.dr id) (YA ops.toList 0 [])) ops ((g.dr id).any (·.2.isSt)) (g.dr id) (Q .normal) fr h
  |.seq a b,Q,fr,h=>vwp P g n ro a (cW (vwp P g n ro b Q) Q) fr h
  |.cond c a b,Q,fr,h=>match wE fr c with
    |.bool b'=>match b' with
      |true=>vwp P g n ro a Q fr h
      |false=>vwp P g n ro b Q fr h
    |_=>False
  |.block id c,Q,fr,h=>vwp P g n ro c (bC id Q) fr h
  |.exit id,Q,fr,h=>Q (.exit id) fr h
  |.ret,Q,fr,h=>Q .ret fr h
  |.label _,Q,fr,h=>Q .normal fr h
  |.scope c,Q,fr,h=>vwp P g n ro c (zGi Q) fr h
  |.loop c,Q,fr,h=>∃I:Nat->Frm->Heap->Prop,(∃k,I k fr h)/\∀k fr h,I k fr h->vwp P g n ro c (cW (λfr h=>∃m,m<k/\I m fr h) Q) fr h
  |.rangeFunc f ps as body,Q,fr,h=>
    (match ro with
     |none=>True
     |some id=>∃r,h.at' id=some (.loop r))/\
    VFn P (wE fr f) [.yld h.next] (h.new h.next (.loop ⟨.ready,none,fr,ps,as,body,n⟩)) λ_ h'=>
      ∃r,h'.at' h.next=some (.loop r)/\r.st≠ .busy/\Wb r.pending Q fr (h'.del h.next)
  |_,_,_,_=>False
def sd(P:Program)(g:Cfg)(n:Nat):Code->Bool
 |.skip=>true
 |.region id ops draw=>Pg n ops&&(!draw||JX P g.mu ops (g.dr id))
 |.seq a b=>sd P g n a&&sd P g n b
 |.cond c a b=>C1 c&&sd P g n a&&sd P g n b
 |.block _ c=>sd P g n c
 |.exit _=>true
 |.ret=>true
 |.loop c=>sd P g n c
 |.rangeFunc f ps as body=>C1 f&&ps.toList.all (λt=>decide (t<n))&&sd P g n as&&sd P g n body
 |.refuse .. =>true
 |.label _=>true
 |.scope c=>sd P g n c
 |_=>false
def StM{P:Program}(c:Ctx P)(ms:List Nat)(n:Nat)(fr:Frm)(h:Heap)(a:Act)(w:World):Prop:=St c ms n fr h a w/\ms.Nodup/\∀b∈ms,b∉c.G
def zMK{P:Program}(c:Ctx P):Option Nat->Option Nat->Prop
 |none,none=>True
 |some id,some b=>∃l,c.ρ id=some l/\l.blk=b
 |_,_=>False
def zB2{P:Program}(c:Ctx P)(n:Nat)(Q:Exit->Frm->Heap->Prop)(e:Exit)(a:Act)(w:World):Prop:=∃ms fr h,StM c ms n fr h a w/\Q e fr h
section
variable{P:Program}{g:Cfg}{c:Ctx P}{ms:List Nat}{n:Nat}{fr:Frm}{h:Heap}{a:Act}{w:World}{ro rb:Option Nat}
def Ra(h:Heap)(i:Nat)(o:Obj):(h.set i o).del i=h.del i:=by simp_all [Heap.set,Heap.del]
def Sim.mark{w0:Base}(d:Sim w0 os M ρ h w):Sim w0 (w.heap.size::os) M ρ h (w.alloc (.deferred (some []))):=by
 have a:=d.alloc (.deferred (some []));refine { below:=a.below,imm:=a.imm,live:=a.live,apart:=a.apart,gdef:=λb c=> ?_,old:=a.old };rcases zw.1 c with rfl|c
 ·refine⟨d.nokeep (zD _),?_⟩;show(w.heap.push _)[w.heap.size]? =_;simp
 ·exact a.gdef b c
def Sim.gdef_lt{w0:Base}(c:Sim w0 os M ρ h w){b:Nat}(a:b∈os):b<w.heap.size:=(yJ.1 (c.gdef b a).2).1
def kU.upd{o:Obj}(hf:kU ρ h.next):kU (nj ρ h.next l) (h.new h.next o).next:=λi a=>by
 simp only[Heap.new]at a
 have:i≠h.next:=ow;simp only[nj,this,yy];exact hf i ow
def Sim.loop{w0:Base}(e:Sim w0 os M ρ h w)(hf:kU ρ h.next)(L:Go.Loop)(r:LRec)(e1:L.state=r.st)(e2:L.pending=r.pending)(e3:L.params=r.params)(a:L.assign=r.assign)(b:L.body=r.body)
  (c:L.tmps.size=r.n) (d:VX M ρ r.fr L.tmps):Sim w0 os M (nj ρ h.next ⟨w.heap.size,0,0⟩) (h.new h.next (.loop r)) (w.alloc (.loop L)):=by
 refine e.allocObj (hf _ (zD _)) (.loop L) (.loop r) ⟨w.heap.size,0,0⟩ rfl ⟨L,?_,e1,e2,e3,a,b,c,jC (MLe.refl _) (tQ (hf _ (zD _))) d⟩;show(w.heap.push _)[w.heap.size]? =_;simp
def Sim.setLoop{w0:Base}(g:Sim w0 os M ρ h w){r:LRec}(i:h.at' id=some (.loop r))(j:ρ id=some l)(st:LoopState)(p:Option Code):
  ∃L:Go.Loop,w.heap[l.blk]? =some (.loop L)/\L.state=r.st/\L.pending=r.pending/\L.params=r.params/\L.assign=r.assign/\L.body=r.body/\L.tmps.size=r.n/\VX M ρ r.fr L.tmps/\
   Sim w0 os M ρ (h.set id (.loop { r with st:=st,pending:=p })) { w with heap:=w.heap.setIfInBounds l.blk (.loop { L with state:=st,pending:=p }) } :=by
 obtain⟨m,h1,c,L,a,k1,k2,k3,k4,k5,k6,k7⟩:=g.live id _ i;rw[j]at h1;cases h1;have f:l.blk<w.heap.size:=by grind
 refine⟨L,a,k1,k2,k3,k4,k5,k6,k7,?_⟩;refine g.put i j rfl rfl rfl (by simp) (λb k=>by simp only[tL];rw[iq (λe=>k e.symm)]) (λo v e=> ?_) ⟨_,a,λd=>by simp⟩ ⟨{ L with state:=st,pending:=p },by simp[f],rfl,rfl,k3,k4,k5,k6,k7⟩;have:=g.imm _ _ _ e;simp[World.cell?,a]at this
def lI{b:Nat}{L:Go.Loop}(h:w.heap[b]? =some (.loop L)):(Instr.getLoop b).run P w=.ok L w:=by
 simp[Instr.getLoop,getObj,Sem.run,h]
def cS{b:Nat}{L:Go.Loop}{a:Go.Obj}(h:w.heap[b]? =some (.loop L)):(setObj b a).run P w=.ok () { w with heap:=w.heap.setIfInBounds b a } :=by
 simp[setObj,Sem.run,h]
def zJA{J:Nat->Prop} :∀k,J k->∃k,J k/\∀m,J m->k<=m:=by
 intro k
 induction k using Nat.strongRecOn with
 |_ k a=>
  grind
theorem NK:∀{l:List (Nat×Fl)},alN l=0->∀x∈l,x.2.isAl=false
 | [],_,x,a=>by cases a
 |y::l,h,x,a=>by
  simp only[alN]at h;split at h
  ·omega
  ·rename_i b;rcases zw.1 a with rfl|a
   ·grind [Fl.isAl]
   ·exact NK h x a
theorem Fp:∀{l:List (Nat×Fl)}{x:Nat×Fl}{k:Nat},x∈l->x.2=.al k->k<alN l
 | [],x,k,a,_=>by cases a
 |y::l,x,k,a,b=>by
  simp only[alN];rcases zw.1 a with rfl|a
  ·grind
  ·have:=Fp a b;split<;>omega
def KY{ops:Array Oper}{l:List (Nat×Fl)}{m:Nat}(c:alN l=m+1)(h:zIk ops l=true):(∀(i:Nat)(o:Oper),ops[i]? =some o->u0 o.op=none)/\∀x∈l,∀y∈l,∀k,x.2=.al k->y.2=.al k->x.1=y.1:=by
 unfold zIk at h;rw[c]at h;simp only[zF,zo]at h;refine⟨λi o a=> ?_,λx e y f k d b=> ?_⟩
 ·have:=h.1 o (by rw[<-qn]at a;exact zg a);simpa using this
 ·grind
def Sim.bump{w0:Base}(a:Sim w0 os M ρ h w)(m:Nat):Sim w0 os M ρ (h.bump m) w:=
 { below:=a.below,imm:=a.imm,live:=a.live,apart:=a.apart,gdef:=a.gdef,old:=a.old }
section
variable{b:Frame}{k:List Item}{cs:List Frame}{F:Fence}{P:Program}{a:Act}{w:World}{n:Nat}{Q:Exit->Act->World->Prop}
def nJ{c:Code} :step P (lone (b.atR a (.code (.scope c)::k)) cs w)=.next (lone (b.atR a (.code c::.inScope c::k)) cs w):=
 step_lone_go (by simp[stepG,stepG.exec,Frame.atR])
def TC{c:Code} :step P (lone (b.atR a (.inScope c::k)) cs w)=.next (lone (b.atR a k) cs w):=
 step_lone_go (by simp[stepG,stepG.exec,Frame.atR])
def KL{c:Code}(h:c.wpIn F n P (Exit.noGoto Q) a w):(Code.scope c).wpIn F n P Q a w:=by
 intro b k cs p j hr;have h0:(lone (b.atR a (.code (.scope c)::k)) cs w).fenced P F:=fenced_calm j hr rfl;obtain⟨e,g,i,f,d⟩:=h b (.inScope c::k) cs p j hr;cases e with
 |normal=>exact⟨.normal,g,i,f,.head h0 nJ (StepsIn.trans d (.one (fenced_calm j hr rfl) TC))⟩
 |exit id=>
  have q:exitTo id (.inScope c::k)=exitTo id k:=by simp[exitTo]
  exact⟨.exit id,g,i,f,λk' m=>.head h0 nJ (d.1 k' (by rw[q];exact m)),λo m=>let ⟨k1,h1,h2⟩:=d.2 o (by rw[q];exact m);⟨k1,h1,.head h0 nJ h2⟩⟩
 |goto l=>exact f.elim
 |ret=>exact⟨.ret,g,i,f,.of_steps (.one h0 nJ) d⟩
 |panic r=>exact⟨.panic r,g,i,f,.of_steps (.one h0 nJ) d⟩
 |outgrown=>exact⟨.outgrown,g,i,f,.of_steps (.one h0 nJ) d⟩
end
theorem pf(q:P.follows .mixedOrders=true):∀(co:Code)(c:Ctx P)(Q:Exit->Frm->Heap->Prop)(ms:List Nat)(fr:Frm)(h:Heap)(a:Act)(w:World),sd P g n co=true->zMK c ro rb->StM c ms n fr h a w->vwp P g n ro co Q fr h->
  co.wpIn (Fr rb) 0 P (zB2 c n Q) a w
 |.skip,c,Q,ms,fr,h,a,w,d,p,s,j=>wpIn_skip ⟨ms,fr,h,s,j⟩
 |.exit id,c,Q,ms,fr,h,a,w,d,p,s,j=>wpIn_exit ⟨ms,fr,h,s,j⟩
 |.ret,c,Q,ms,fr,h,a,w,d,p,s,j=>wpIn_ret ⟨ms,fr,h,s,j⟩
 |.seq x y,c,Q,ms,fr,h,a,w,d,p,s,j=>by
  simp only[sd,zF]at d;simp only[vwp]at j;refine wpIn_seq (jG (pf q x c _ ms fr h a w d.1 p s j) λe a' w' A=> ?_);obtain⟨D,B,h',C,A⟩:=A;cases e with
  |normal=>exact pf q y c Q D B h' a' w' d.2 p C A
  |_=>exact⟨D,B,h',C,A⟩
 |.block id x,c,Q,ms,fr,h,a,w,d,p,s,j=>by
  simp only[sd]at d;simp only[vwp]at j;refine wpIn_block (jG (pf q x c _ ms fr h a w d p s j) λe a' w' A=> ?_);obtain⟨D,B,h',C,A⟩:=A;cases e with
  |exit i=>
   simp only[bC]at A;simp only[Exit.inBlock];split at A
   ·rename_i N;rw[ip N];exact⟨D,B,h',C,A⟩
   ·rename_i N;rw[iq N];exact⟨D,B,h',C,A⟩
  |_=>exact⟨D,B,h',C,A⟩
 |.cond x y z,c,Q,ms,fr,h,a,w,d,p,s,j=>by
  simp only[sd,zF]at d;simp only[vwp]at j;obtain⟨M,ρ,h1,S,h3,W,h5,h6,h7⟩:=s.1;have K:=bm h5 d.1.1;split at j
  ·rename_i b T;rw[T]at K;simp only[rel]at K;refine wpIn_cond (t:=b) K ?_;cases b with
   |true=>exact pf q y c Q ms fr h a w d.1.2 p s j
   |false=>exact pf q z c Q ms fr h a w d.2 p s j
  ·exact j.elim
 |.region id ops a5,c,Q,ms,fr,h,a,w,d,p,s,j=>by
  simp only[sd,zF]at d;simp only[vwp]at j;obtain⟨H,Z,ad⟩:=s;have hK:∀fr h a w,St c ms n fr h a w->Q .normal fr h->zB2 c n Q .normal a w:=λfr h a w k1 k2=>⟨ms,fr,h,⟨k1,Z,ad⟩,k2⟩;cases a5 with
  |false=>
   refine wpIn_region ?_;have:=Vv (ro:=rb) d.1 hK ops.toList [] rfl fr h a w H j;simpa [List.range_eq_range']using this
  |true=>
   have hd:JX P g.mu ops (g.dr id)=true:=by simpa using d.2
   unfold JX at hd;simp only[zF,qN]at hd;obtain⟨⟨⟨⟨⟨d1,d2⟩,d5⟩,ba⟩,d4⟩,d6⟩:=hd;have d3:=LP ba;have a8:∀i,i<ops.size->i∈(g.dr id).map (·.1):=λi N=>by
    have:=zo.1 d1 i (qT.2 N);simpa using this
   obtain⟨h0,U,j⟩:=j;obtain⟨hh,bk,R,b0,j⟩:∃hh,HLe h0 hh/\StU c (A9 h0.next (g.dr id)) ms n fr hh a { w with drawn:=w.drawn+1 } /\zBD h0 ops (g.dr id)/\nk P g.mu h0 (He P g.mu ops (g.dr id) (YA ops.toList 0 [])) ops ((g.dr id).any (·.2.isSt)) (g.dr id) (Q .normal) fr hh:=by
    have R:St c ms n fr h a { w with drawn:=w.drawn+1 } :=by
     obtain⟨M,ρ,h1,S,h3,W⟩:=H;exact⟨M,ρ,h1,S,h3.drew,W⟩
    cases X:alN (g.dr id)with
    |zero=>
     rw[aM X]at j;have a9:=NK X;refine⟨h,U,R.stu λi N=> ?_,.inl a9,j⟩;obtain⟨x,K,k,hk,_⟩:=N;have:=a9 x K;rw[hk]at this;cases this
    |succ m=>
     rw[HE X]at j;obtain⟨b7,j⟩:=j;obtain⟨c1,c2⟩:=KY X d6;obtain⟨M,ρ,h1,S,h3,W,h5,h6,h7⟩:=R;refine⟨h.bump (m+1),U,⟨M,ρ,h1,S,h3.bump _,λi N=>W i ?_,h5,h6,h7,λi N=> ?_⟩,.inr ⟨c1,c2,λk=> ?_⟩,j⟩
     ·simp only[Heap.bump]at N;omega
     ·obtain⟨x,K,k,hk,rfl⟩:=N;have:=Fp K hk;refine⟨?_,W _ ow⟩;simp only[Heap.bump];omega
     ·cases hz:h0.at' (h0.next+k)with
      |none=>rfl
      |some ob=>
       obtain⟨l,hl,_⟩:=h3.live _ _ (U _ _ hz);rw[W _ ow]at hl;cases hl
   have a2:((g.dr id).map (·.1)).Nodup:=by simpa using d5
   refine wpIn_region_any q (P7 (ro:=rb) (h0:=h0) d.1 hK ops.size ((g.dr id).any (·.2.isSt)) (g.dr id) _ fr hh a _ ow a2 (λi N=> ?_) (by simp) (λk o hk hl=> ?_) d3 d4 (λ_=>bk) (λx K ak=>yu.2 ⟨x,K,ak⟩) (λy hy T x=>Kg hy T x) (λx K T z hz H=>H6 T hz H) b0 R j)
   ·simp[N,a8 i N]
   ·have:=(yJ.1 hk).1;simp[this]at hl
 |.loop x,c,Q,ms,fr,h,a,w,d,p,s,j=>by
  simp only[sd]at d;simp only[vwp]at j;obtain⟨I,⟨k,hI⟩,ag⟩:=j
  classical
  let J:Nat->Act->World->Prop:=λk a w=>∃ms fr h,StM c ms n fr h a w/\I k fr h
  have O:∀a w,∃m,(∃k,J k a w)->J m a w/\∀k,J k a w->m<=k:=λa w=>by
   by_cases K:∃k,J k a w
   ·obtain⟨k,hk⟩:=K;obtain⟨m,h1,S⟩:=zJA (J:=λk=>J k a w) k hk;exact⟨m,λ_=>⟨h1,S⟩⟩
   ·exact⟨0,λh=>absurd h K⟩
  let μ:Act->World->Nat:=λa w=>Classical.choose (O a w)
  have hμ:∀a w,(∃k,J k a w)->J (μ a w) a w/\∀k,J k a w->μ a w<=k:=λa w=>Classical.choose_spec (O a w);refine wpIn_loop (λa w=>∃k,J k a w) μ ⟨k,ms,fr,h,s,hI⟩ λa w K=> ?_;obtain⟨⟨D,B,h',C,bb⟩,_⟩:=hμ a w K;refine jG (pf q x c _ D B h' a w d p C (ag _ _ _ bb)) λe a' w' A=> ?_;obtain⟨a4,au,S,a3,A⟩:=A;cases e with
  |normal=>
   obtain⟨m,bx,a6⟩:=A;have ak:∃k,J k a' w':=⟨m,a4,au,S,a3,a6⟩;exact⟨ak,Nat.lt_of_le_of_lt ((hμ a' w' ak).2 m ⟨a4,au,S,a3,a6⟩) bx⟩
  |_=>exact⟨a4,au,S,a3,A⟩
 |.rangeFunc f ps as body,c,Q,ms,fr,h,a,w,d,p,s,j=>by
  simp only[sd,zF]at d;obtain⟨⟨⟨o1,o2⟩,o3⟩,o4⟩:=d;simp only[vwp]at j;obtain⟨b4,V⟩:=j;obtain⟨⟨M,ρ,h1,S,h3,W,h5,h6,h7⟩,Z,ad⟩:=s;have rf:=bm h5 o1;generalize hD:wE fr f=D0 at V rf;cases D0<;>simp only[VFn]at V;rename_i g0 first cap
  cases g0<;>simp only at V;rename_i g1;simp only[rel]at rf;obtain⟨_,va,vc,ef,b5,b6⟩:=rf;refine wpIn_rangeFunc λfn _=> ?_;obtain⟨E,L,u,Y,b3,a2,b1,l1,l2,l3,l4,l5,l6⟩:∃ (E:List Nat) (L:Go.Loop) (u:World),(Instr.enterLoop fn a.tmps ps as body rb).run P w=.ok (u.heap.size,E.map Rw) (u.alloc (.loop L))/\
    Sim c.w0 (E++ms++c.G) M ρ h u/\(E++ms).Nodup/\(∀b∈E++ms,b∉c.G)/\L.state=.ready/\L.pending=none/\L.tmps=a.tmps/\L.params=ps/\L.assign=as/\L.body=body:=by
   cases rb with
   |none=>
    refine⟨[w.heap.size],{ state:=.ready,pending:=none,fn:=fn,tmps:=a.tmps,params:=ps,assign:=as,body:=body,defers:=w.heap.size },w.alloc (.deferred (some [])),?_,h3.mark,?_,?_,rfl,rfl,rfl,rfl,rfl,rfl⟩
    ·simp[Instr.enterLoop,Rw]
    ·rw[List.singleton_append,oI];exact⟨λT=>wN _ (h3.gdef_lt (tK _ T)),Z⟩
    ·intro b T hg;rcases zw.1 T with rfl|T
     ·exact wN _ (h3.gdef_lt (rX _ hg))
     ·exact ad b T hg
   |some b=>
    cases ro with
    |none=>exact p.elim
    |some id=>
     obtain⟨l,bo,bs⟩:=p;obtain⟨r,hr⟩:=b4;obtain⟨l',g1,_,L0,g2,_⟩:=h3.live id _ hr;rw[S _ _ bo]at g1;cases g1;rw[bs]at g2;refine⟨[],{ state:=.ready,pending:=none,fn:=fn,tmps:=a.tmps,params:=ps,assign:=as,body:=body,defers:=L0.defers },w,?_,h3,Z,ad,rfl,rfl,rfl,rfl,rfl,rfl⟩;simp[Instr.enterLoop,lI g2]
  have b2:=b3.loop W L ⟨.ready,none,fr,ps,as,body,n⟩ l1 l2 l4 l5 l6 (by rw[l3];exact h7) (by rw[l3];exact h5);have ai:RLe ρ (nj ρ h.next ⟨u.heap.size,0,0⟩):=tQ (W _ (zD _));refine⟨u.heap.size,E.map Rw,u.alloc (.loop L),{ target:=.fn (.func g1) vc,args:=va++ #[.func (.yield u.heap.size) #[] #[]] },u.alloc (.loop L),g1,va++ #[.func (.yield u.heap.size) #[] #[]]++vc,u.alloc (.loop L),Y,?_,λ_ _=>trivial,?_,λe=>(by cases e),?_⟩
  ·simp only[resolve,rangeCall,ef,Deferred.ofValue];simp[Act.eval]
  ·exact Zr V.1 _ _
  ·have a1:=V.2 c.w0 (E++ms++c.G) M _ _ (va++ #[.func (.yield u.heap.size) #[] #[]]++vc) c.good b2 (kU.upd W) (by
    simp only[mZ];refine tH (tH (rm (MLe.refl _) ai _ _ b5) ?_) (rm (MLe.refl _) ai _ _ b6);simp only[wJ,rel];exact⟨_,[],rfl,⟨_,by simp[nj];rfl,rfl⟩,rfl⟩)
   refine CallsIn.mono (F:=Fr rb) (n:=0-1) (Zg.2 a1) λe w3 he=> ?_;obtain⟨v,M',ρ',d',h',rfl,q1,q2,q3,q4,q5,r,r1,r2,r3⟩:=he;have hl:ρ' h.next=some ⟨u.heap.size,0,0⟩:=q2 _ _ (by simp[nj]);obtain⟨L3,e1,e2,e3,_,_,_,_,_,hS⟩:=q3.setLoop r1 hl .exhausted r.pending;have a7:({ L3 with state:=.exhausted,pending:=r.pending } :Go.Loop)= { L3 with state:=.exhausted } :=by rw[<-e3]
   rw[a7]at hS;have hS:=hS.del h.next;rw[Ra]at hS;have a0:(L3.state==LoopState.busy)=false:=by rw[e2];simpa using r2
   refine⟨r.pending,{ w3 with heap:=w3.heap.setIfInBounds u.heap.size (.loop { L3 with state:=.exhausted }) },?_,?_⟩
   ·simp only[Instr.endLoop,zx,lI e1,zX,a0,zl,yy,cS e1,yN,e3]
   ·have H:StM c (E++ms) n fr (h'.del h.next) { a with defers:=E.map Rw++a.defers } { w3 with heap:=w3.heap.setIfInBounds u.heap.size (.loop { L3 with state:=.exhausted }) } :=
     ⟨⟨M',ρ',h1.trans q1,(S.trans ai).trans q2,hS,q4,jC q1 (ai.trans q2) h5,by simp[h6],h7⟩,a2,b1⟩
    cases hp:r.pending with
    |none=>rw[hp]at r3;exact⟨_,_,_,H,r3⟩
    |some cc=>
     rw[hp]at r3;cases cc<;>simp only[Wb]at r3
     ·exact wpIn_exit ⟨_,_,_,H,r3⟩
     ·exact wpIn_ret ⟨_,_,_,H,r3⟩
 |.label _,c,Q,ms,fr,h,a,w,d,p,s,j=>wpIn_label ⟨ms,fr,h,s,j⟩
 |.goto _,_,_,_,_,_,_,_,d,_,_,_=>by simp[sd]at d
 |.scope x,c,Q,ms,fr,h,a,w,d,p,s,j=>by
  simp only[sd]at d;simp only[vwp]at j;refine KL (jG (pf q x c _ ms fr h a w d p s j) λe a' w' A=> ?_);obtain⟨D,B,h',C,A⟩:=A;cases e with
  |goto l=>exact A.elim
  |_=>exact⟨D,B,h',C,A⟩
 |.refuse ..,_,_,_,_,_,_,_,_,_,_,j=>by simp[vwp]at j
end
def ZL(fr:Frm):List Tmp->List D->Frm
 |t::ts,d::ds=>ZL (nf fr (some t) d) ts ds
 |_,_=>fr
def U3(Q:D->Heap->Prop)(id:Nat)(L:LRec)(e:Exit)(h:Heap):Prop:=
 match e with
 |.normal=>Q (.bool true) (h.set id (.loop { L with st:=.ready,pending:=none }))
 |.ret=>Q (.bool false) (h.set id (.loop { L with st:=.done,pending:=some .ret }))
 |.exit i=>Q (.bool false) (h.set id (.loop { L with st:=.done,pending:=some (.exit i) }))
 |_=>False
def HP(P:Program)(fr:Frm)(h:Heap):ResultVar->Option D
 |.tmp t=>some (fr t)
 |.cell a t=>lR P t (fr a) h
def lS(P:Program)(fr:Frm)(h:Heap):List ResultVar->Option (List D)
 | []=>some []
 |r::rs=>match HP P fr h r with
  |none=>none
  |some d=>match lS P fr h rs with
   |none=>none
   |some ds=>some (d::ds)
def ay(ds:List D):D:=
 match ds with
 | [d]=>d
 |ds=>.tuple ds
def UR(args:List D):Frm:=λi=>match args[i]? with
 |some d=>d
 |none=>rD
def D7(P:Program)(rs:List ResultVar)(Q:D->Heap->Prop)(e:Exit)(fr:Frm)(h:Heap):Prop:=
  (match e with
   |.normal=>True
   |.ret=>True
   |_=>False)/\
  match lS P fr h rs with
  |some ds=>Q (ay ds) h
  |none=>False
section
variable{P:Program}{g:Cfg}{c:Ctx P}{ms:List Nat}{n:Nat}{fr:Frm}{h:Heap}{a:Act}{w:World}{ro rb:Option Nat}{M:Imm}{ρ:Ren}{w0:Base}{G:List Nat}
def Vd(tmps:Array Value):ResultVar->Sem Value
 |.tmp t=>pure (tmps.getD t undef)
 |.cell a t=>do loadVar t (<-asAddr (tmps.getD a undef))
def FL(j:Sim w0 G M ρ h w)(hf:VX M ρ fr tmps){r:ResultVar}(hr:HP P fr h r=some d):
  ∃v,(Vd tmps r).run P w=.ok v w/\rel M ρ d v:=by
 cases r with
 |tmp t=>cases hr;exact⟨_,rfl,hf t⟩
 |cell b t=>
  simp only[HP]at hr;have g:=hf b;unfold lR at hr;split at hr
  ·cases hr
  ·rename_i ag a;split at hr
   ·rename_i cs off c;rw[c]at g;obtain⟨b',p,e,m⟩:=g;obtain⟨v,h1,f⟩:=(j.holds m).loadVar a hr;exact⟨v,by simp[Vd,e,asAddr,h1],f⟩
   ·rename_i id off c;rw[c]at g;obtain⟨l,k,e⟩:=g;split at hr
    ·rename_i cs i;obtain⟨v,h1,f⟩:=(j.row i k).loadVar a hr;rw[yZ]at h1;exact⟨v,by simp[Vd,e,asAddr,h1],f⟩
    ·rename_i u full cs i;obtain⟨v,h1,f⟩:=(j.trow i k).loadVar a hr;rw[yZ]at h1;exact⟨v,by simp[Vd,e,asAddr,h1],f⟩
    ·cases hr
   ·cases hr
theorem MW(b:Sim w0 G M ρ h w)(hf:VX M ρ fr tmps):∀{rs:List ResultVar}{ds:List D},lS P fr h rs=some ds->
  ∃vs,(rs.mapM (Vd tmps)).run P w=.ok vs w/\wJ M ρ ds vs
 | [],ds,hr=>by cases hr;exact⟨[],rfl,rfl⟩
 |r::rs,ds,hr=>by
  simp only[lS]at hr;split at hr
  ·cases hr
  ·rename_i d e;split at hr
   ·cases hr
   ·rename_i c a;cases hr;obtain⟨v,v1,f⟩:=FL (P:=P) b hf e;obtain⟨vs,s1,s2⟩:=MW b hf a;refine⟨v::vs,?_,⟨v,vs,rfl,f,s2⟩⟩
    simp_all [List.mapM_cons]
def Pk(b:Sim w0 G M ρ h w)(hf:VX M ρ fr tmps){fn:Func}(hr:lS P fr h fn.results.toList=some ds):
  ∃v,(results fn tmps).run P w=.ok v w/\rel M ρ (ay ds) v:=by
 obtain⟨vs,s1,s2⟩:=MW (P:=P) b hf hr;have a:=qI s2;refine⟨if h:vs.toArray.size=1 then vs.toArray[0]else .tuple vs.toArray,?_,?_⟩
 ·unfold results;rw[Array.mapM_eq_mapM_toList];change (do
   let vs<-Functor.map List.toArray (List.mapM (Vd tmps) fn.results.toList)
   pure (if h:vs.size=1 then vs[0]else .tuple vs):Sem Value).run P w=_
  simp_all
 ·match ds,vs,a,s2 with
  | [],[],_,_=>simp only[ay,rel,wJ];exact⟨#[],rfl,rfl⟩
  | [d],[v],_,s2=>
   grind [wJ,ay]
  |d::c::ds,v::e::vs,_,s2=>
   grind [ay,rel]
variable{k:Nat}
theorem Vo{fn:Func}{R:Ending->World->Prop}{F:Fence} :∀(ms:List Nat)(w:World),Sim w0 (ms++G) M ρ h w->ms.Nodup->(∀b∈ms,b∉G)->
  (∀j,Sim w0 G M ρ h j->∃v,(results fn tmps).run P j=.ok v j/\R (.returned v) j)->LeavesInM F k P fn tmps R (ms.map Rw) .returning w
 | [],w,a,_,_,n=>by
  exact n w a
 |b::ms,w,a,r,s,n=>by
  obtain⟨h1,c⟩:=a.gdef b (by simp);refine⟨by simp,.inl ⟨b,{ w with heap:=w.heap.setIfInBounds b (.deferred none) },rfl,?_,?_⟩⟩
  ·simp[Instr.takeDeferred,getObj,setObj,Sem.run,c]
  ·refine Vo ms _ ?_ (oI.1 r).2 (λx B=>s x (by simp[B])) n;have p:∀b',b'≠b->(w.heap.setIfInBounds b (.deferred none))[b']? =w.heap[b']? :=by grind
   refine { below:=⟨a.below.os,a.below.tape,a.below.output,by simpa using a.below.size,λq y=> ?_,a.below.drawn⟩,imm:=λb' o v e=> ?_,live:=λi z e=> ?_,apart:=a.apart,gdef:=λb' A=> ?_,old:=a.old }
   ·rw[p q (λe=>h1 (e▸y))];exact a.below.block q y
   ·have:=a.imm b' o v e;have f:b'≠b:=by
     intro m;subst m;simp[World.cell?,c]at this
    rw[<-this];exact wj (w:=w) (p b' f)
   ·obtain⟨l,t,u,d⟩:=a.live i z e;refine⟨l,t,u,se (p _ λm=> ?_) d⟩;rw[<-m]at c;cases z with
    |row _=>obtain⟨_,_,_,g,_⟩:=d;rw[c]at g;cases g
    |tok=>obtain⟨_,_,_,_,g,_⟩:=d;rw[c]at g;cases g
    |map _=>obtain⟨_,_,g,_⟩:=d;rw[c]at g;cases g
    |loop _=>obtain⟨_,g,_⟩:=d;rw[c]at g;cases g
    |siter _ _=>obtain⟨_,g,_⟩:=d;rw[c]at g;cases g
    |trow _ _ _=>obtain⟨_,_,_,g,_⟩:=d;rw[c]at g;cases g
   ·have f:b'≠b:=by
     grind
    obtain⟨t,u⟩:=a.gdef b' (by simp only[yE,zw];exact .inr A)
    grind
def Lr(hr:wJ M ρ args va.toList)(k:Nat):VX M ρ (UR args) (va++Array.replicate k undef):=by
 intro i;have f:=qI hr;unfold UR;cases e:args[i]? with
 |some d=>
  obtain⟨v,h1,c⟩:=sF hr i d e;have b:i<va.size:=by grind
  have:(va++Array.replicate k undef).getD i undef=v:=by
   rw[uO,tr b,<-qn,h1];rfl
  rw[this];exact c
 |none=>
  have a:va.size<=i:=by grind
  have:(va++Array.replicate k undef).getD i undef=undef:=by
   rw[uO,Array.getElem?_append_right a]
   grind
  rw[this];exact fE
variable{Q:D->Heap->Prop}
def zE.of_body(j:P.follows .mixedOrders=true){fn:Func}{co:Code}(hf:P.funcs[f]? =some fn)(l:fn.body=some co)(z:(fn.name== "runtime.NumGoroutine")=false)(p:sd P g fn.ntmps co=true)
  (D:args.length<=fn.ntmps) (B:vwp P g fn.ntmps none co (D7 P fn.results.toList Q) (UR args) h):zE P f args h Q:=by
 refine⟨by simp[pQ,hf,l,bne,z],λw0 G M ρ w t i A o hr=> ?_⟩;have r:=qI hr;rw[yQ]at r;refine Zg.1 (callsIn_of_wp_marks (F:=Fence.wide) (n:=0) hf l trivial ?_);have q:StM ⟨w0,G,M,ρ,i⟩ [] fn.ntmps (UR args) h { tmps:=t++Array.replicate (fn.ntmps-t.size) undef,defers:=[] } w:=
  ⟨⟨M,ρ,MLe.refl _,RLe.refl _,A,o,Lr hr _,rfl,by simp;omega⟩,kC,λb l=>by cases l⟩
 refine jG (pf (ro:=none) (rb:=none) j co ⟨w0,G,M,ρ,i⟩ _ [] _ _ _ _ p trivial q B) λe s u c=> ?_;obtain⟨ms,m,h',⟨⟨M',C,k1,k2,k3,k4,k5,k6,k7⟩,k8,k9⟩,c⟩:=c;have d:∀ds,lS P m h' fn.results.toList=some ds->Q (ay ds) h'->LeavesInM Fence.wide 0 P fn s.tmps (Ret w0 G M ρ Q) s.defers .returning u:=λds a x=>by
  rw[k6];refine Vo ms u k3 k8 k9 λE k=> ?_;obtain⟨v,r1,r2⟩:=Pk (P:=P) k k5 a;exact⟨v,r1,v,M',C,_,h',rfl,k1,k2,k,k4,r2,x⟩
 obtain⟨y,c⟩:=c;split at c
 ·rename_i ds a;cases e with
  |normal=>exact d ds a c
  |ret=>exact d ds a c
  |_=>exact y.elim
 ·exact c.elim
def Sim.fewer(a:Sim w0 G M ρ h w)(d:∀x∈os,x∈G):Sim w0 os M ρ h w:=
 { below:=a.below,imm:=a.imm,live:=a.live,apart:=a.apart,gdef:=λb c=>a.gdef b (d b c),old:=a.old }
theorem VY:∀(a:List Tmp)(ds:List D)(vs:List Value)(fr:Frm)(tmps:Array Value),VX M ρ fr tmps->wJ M ρ ds vs->(∀t∈a,t<tmps.size)->a.length=ds.length->
  VX M ρ (ZL fr a ds) ((a.zip vs).foldl (λtmps p=>tmps.setIfInBounds p.1 p.2) tmps)/\((a.zip vs).foldl (λtmps p=>tmps.setIfInBounds p.1 p.2) tmps).size=tmps.size
 | [],[],vs,fr,tmps,hf,hr,c,b=>by
  exact⟨hf,rfl⟩
 |t::a,d::ds,vs,fr,tmps,hf,hr,c,b=>by
  obtain⟨v,e,rfl,h1,f⟩:=hr;simp only[oJ,List.foldl_cons,ZL];have:=VY a ds e (nf fr (some t) d) (tmps.setIfInBounds t v) (Ya hf h1 (c t (by simp))) f (λu g=>by simpa using c u (by simp[g])) (by simpa using b)
  grind
 | [],_::_,_,_,_,_,_,_,b=>by simp at b
 |_::_,[],_,_,_,_,_,_,b=>by simp at b
def uS.of_round(j:P.follows .mixedOrders=true){L:LRec}(hL:h.at' id=some (.loop L))(r:args.length=L.params.size)(ai:L.params.toList.all (λt=>decide (t<L.n))=true)
  (W:sd P g L.n L.assign=true) (X:sd P g L.n L.body=true)
  (hv:vwp P g L.n (some id) L.assign (λe o h1=>match e with
   |.normal=>∃k,h1.at' id=some (.loop k)/\k.st=.ready/\vwp P g L.n (some id) L.body (λe _ F=>∃D,F.at' id=some (.loop D)/\U3 Q id D e F) o (h1.set id (.loop { k with st:=.busy }))
   |_=>False) (ZL L.fr L.params.toList args) h):uS P id args h Q:=by
 intro w0 G M ρ w C l f hs O hr R;obtain⟨l',h1,N,m,g1,g2,g3,g4,g5,g6,g7,g8⟩:=hs.live id _ hL;have ak:=qI hr;have s:∀t∈L.params.toList,t<m.tmps.size:=by grind
 obtain⟨p1,p2⟩:=VY L.params.toList args C.toList L.fr m.tmps g8 hr s (by rw[yQ];exact r.symm);have ad:((L.params.zip C).foldl (λtmps x=>match x with|(t,a)=>tmps.setIfInBounds t a) m.tmps)=(L.params.toList.zip C.toList).foldl (λtmps p=>tmps.setIfInBounds p.1 p.2) m.tmps:=by
  rw[<-Array.foldl_toList,Array.toList_zip]
 refine⟨m.fn,(L.params.toList.zip C.toList).foldl (λtmps p=>tmps.setIfInBounds p.1 p.2) m.tmps,L.assign,L.body,?_,?_⟩
 ·unfold Instr.yield
  simp_all [lI]
 ·refine roundIn_of_wpIn trivial ?_;have V:StM ⟨w0,G,M,ρ,f⟩ [] L.n (ZL L.fr L.params.toList args) h { tmps:=(L.params.toList.zip C.toList).foldl (λtmps p=>tmps.setIfInBounds p.1 p.2) m.tmps,defers:=[] } w:=
   ⟨⟨M,ρ,MLe.refl _,RLe.refl _,hs,O,p1,rfl,by rw[p2,g7]⟩,kC,λb K=>by cases K⟩
  have u:zMK ⟨w0,G,M,ρ,f⟩ (some id) (some l.blk):=⟨l,R,rfl⟩;refine jG (pf (rb:=some l.blk) j L.assign ⟨w0,G,M,ρ,f⟩ _ [] _ _ _ _ W u V hv) λe a1 I H=> ?_;obtain⟨B,o,h1,z,H⟩:=H;cases e with
  |normal=>
   obtain⟨k,j1,j2,j3⟩:=H;obtain⟨⟨M1,ρ1,k1,k2,k3,k4,k5,k6,k7⟩,k8,k9⟩:=z;have S:ρ1 id=some l:=k2 _ _ R;obtain⟨E,e1,e2,e3,_,_,_,_,_,Z⟩:=k3.setLoop j1 S .busy k.pending;have q:({ E with state:=.busy,pending:=k.pending } :Go.Loop)= { E with state:=.busy } :=by rw[<-e3]
   rw[q]at Z;refine⟨{ I with heap:=I.heap.setIfInBounds l.blk (.loop { E with state:=.busy }) },?_,?_⟩
   ·simp only[Instr.beginRound,zx,lI e1,zX,cS e1,e2,j2,yN]
   ·have A:StM ⟨w0,G,M,ρ,f⟩ B L.n o (h1.set id (.loop { k with st:=.busy })) a1 { I with heap:=I.heap.setIfInBounds l.blk (.loop { E with state:=.busy }) } :=
     ⟨⟨M1,ρ1,k1,k2,Z,k4,k5,k6,k7⟩,k8,k9⟩
    refine jG (pf (rb:=some l.blk) j L.body ⟨w0,G,M,ρ,f⟩ _ B _ _ _ _ X u A j3) λe2 a2 Y U=> ?_;obtain⟨au,ag,F,⟨⟨M2,ρ2,q1,q2,q3,q4,q5,q6,q7⟩,q8,q9⟩,D,t1,t2⟩:=U;have T:ρ2 id=some l:=q2 _ _ R;have d:∀(c:Option Code)(b:Bool)(st:LoopState),(c.isNone=b)->st=(if c.isNone then .ready else .done)->Q (.bool b) (F.set id (.loop { D with st:=st,pending:=c }))->
      ∃v w',(Instr.endRound l.blk c).run P Y=.ok v w'/\Ret w0 G M ρ Q (.returned v) w':=λc b st K y hQ=>by
     obtain⟨Ly,y1,_,_,_,_,_,_,_,J⟩:=q3.setLoop t1 T st c;refine⟨.bool b,{ Y with heap:=Y.heap.setIfInBounds l.blk (.loop { Ly with state:=st,pending:=c }) },?_,.bool b,M2,ρ2,.bool b,_,rfl,q1,q2,J.fewer (λx hx=>rX _ hx),q4,uz b,hQ⟩;simp only[Instr.endRound,zx,lI y1,zX,cS y1,yN,K,y]
    cases e2 with
    |normal=>exact d none true .ready rfl rfl t2
    |ret=>exact d (some .ret) false .done rfl rfl t2
    |exit i=>exact d (some (.exit i)) false .done rfl rfl t2
    |_=>exact t2.elim
  |_=>exact H.elim
end
mutual
def below(k:Nat):D->Prop
 |.bool _=>True
 |.int _ _=>True
 |.str _=>True
 |.nilptr=>True
 |.ptr id _=>id<k
 |.iptr cs _=>qO k cs
 |.nilsl=>True
 |.sl _ xs tk=>oc k xs/\(match tk with|.own t=>t<k|_=>True)
 |.rs id _ _ _=>id<k
 |.nilmap=>True
 |.map id=>id<k
 |.fn _ a c=>qO k a/\qO k c
 |.yld id=>id<k
 |.nilfn=>True
 |.agg cs=>qO k cs
 |.tuple cs=>qO k cs
 |.iface _ d=>below k d
 |.niliface=>True
def qO(k:Nat):List D->Prop
 | []=>True
 |d::ds=>below k d/\qO k ds
def oc(k:Nat):List (List D)->Prop
 | []=>True
 |x::xs=>qO k x/\oc k xs
end
def Hg(k:Nat)(ρ:Ren):Ren:=λi=>if i<k then ρ i else none
variable{k n:Nat}{M:Imm}{fr:Frm}{P:Program}{w:World}{h h0:Heap}{K Q:D->Heap->Prop}{b:Bool}
def o7(h:i<k):Hg k ρ i=ρ i:=ip h
section
variable{M:Imm}{ρ:Ren}{k:Nat}
mutual
theorem pk(k:Nat)(M:Imm)(ρ:Ren):∀(d:D)(v:Value),below k d->rel M ρ d v->rel M (Hg k ρ) d v
 |.bool _,_,_,h=>by simpa [rel]using h
 |.int _ _,_,_,h=>by simpa [rel]using h
 |.str _,_,_,h=>by simpa [rel]using h
 |.nilptr,_,_,h=>by simpa [rel]using h
 |.ptr id off,_,b,h=>by simp only[below]at b;simpa only[rel,o7 b]using h
 |.iptr cs off,_,b,h=>by
  simp only[rel,below]at h b⊢;obtain⟨x,p,h1,e⟩:=h;exact⟨x,p,h1,Xx k M ρ cs x p b e⟩
 |.nilsl,_,_,h=>by simpa [rel]using h
 |.sl sz xs tk,_,b,h=>by
  simp only[rel,below]at h b⊢;obtain⟨h0,m,x,p,cap,h1,e,h3,g⟩:=h;refine⟨h0,m,x,p,cap,h1,e,QA k M ρ sz xs x p b.1 h3,?_⟩;cases tk with
  |no=>trivial
  |full=>exact g
  |own t=>
   obtain⟨l,i,j⟩:=g;exact⟨l,by rw[o7 b.2];exact i,j⟩
 |.rs id _ _ _,_,b,h=>by simp only[below]at b;simpa only[rel,o7 b]using h
 |.nilmap,_,_,h=>by simpa [rel]using h
 |.map id,_,b,h=>by simp only[below]at b;simpa only[rel,o7 b]using h
 |.fn f a c,_,b,h=>by
  simp only[rel,below]at h b⊢;obtain⟨h0,n,o,h1,e,h3⟩:=h;exact⟨h0,n,o,h1,lG k M ρ a _ b.1 e,lG k M ρ c _ b.2 h3⟩
 |.yld id,_,b,h=>by simp only[below]at b;simpa only[rel,o7 b]using h
 |.nilfn,_,_,h=>by simpa [rel]using h
 |.agg cs,_,b,h=>by
  simp only[rel,below]at h b⊢;obtain⟨vs,h1,e,h3⟩:=h;exact⟨vs,h1,lG k M ρ cs _ b e,h3⟩
 |.tuple cs,_,b,h=>by
  simp only[rel,below]at h b⊢;obtain⟨vs,h1,e⟩:=h;exact⟨vs,h1,lG k M ρ cs _ b e⟩
 |.iface t d,_,b,h=>by
  simp only[rel,below]at h b⊢;obtain⟨u,h1,e⟩:=h;exact⟨u,h1,pk k M ρ d u b e⟩
 |.niliface,_,_,h=>by simpa [rel]using h
theorem lG(k:Nat)(M:Imm)(ρ:Ren):∀(ds:List D)(vs:List Value),qO k ds->wJ M ρ ds vs->wJ M (Hg k ρ) ds vs
 | [],_,_,h=>by simpa [wJ]using h
 |d::ds,_,b,h=>by
  simp only[wJ,qO]at h b⊢;obtain⟨v,a,h1,c,h3⟩:=h;exact⟨v,a,h1,pk k M ρ d v b.1 c,lG k M ρ ds a b.2 h3⟩
theorem Xx(k:Nat)(M:Imm)(ρ:Ren):∀(ds:List D)(b p:Nat),qO k ds->kQ M ρ ds b p->kQ M (Hg k ρ) ds b p
 | [],_,_,_,_=>by simp[kQ]
 |d::ds,b,p,a,h=>by
  simp only[kQ,qO]at h a⊢;obtain⟨⟨h0,v,h1,c⟩,h3⟩:=h;exact⟨⟨h0,v,h1,pk k M ρ d v a.1 c⟩,Xx k M ρ ds b (p+1) a.2 h3⟩
theorem QA(k:Nat)(M:Imm)(ρ:Ren):∀(sz:Nat)(xs:List (List D))(b p:Nat),oc k xs->gy M ρ sz xs b p->gy M (Hg k ρ) sz xs b p
 |_,[],_,_,_,_=>by simp[gy]
 |sz,x::xs,b,p,a,h=>by
  simp only[gy,oc]at h a⊢;exact⟨h.1,Xx k M ρ x b p a.1 h.2.1,QA k M ρ sz xs b (p+sz) a.2 h.2.2⟩
end
def kU.lt(hf:kU ρ k)(h:ρ i=some l):i<k:=by
 by_cases a:i<k
 ·exact a
 ·rw[hf i ow]at h;cases h
mutual
theorem nh(hf:kU ρ k):∀(d:D)(v:Value),rel M ρ d v->below k d
 |.bool _,_,_=>trivial
 |.int _ _,_,_=>trivial
 |.str _,_,_=>trivial
 |.nilptr,_,_=>trivial
 |.ptr id off,_,h=>by simp only[rel]at h;obtain⟨l,h1,_⟩:=h;exact hf.lt h1
 |.iptr cs off,_,h=>by
  simp only[rel,below]at h⊢;obtain⟨x,p,h1,b⟩:=h;exact ZG hf cs x p b
 |.nilsl,_,_=>trivial
 |.sl sz xs tk,_,h=>by
  simp only[rel,below]at h⊢;obtain⟨h0,j,x,p,cap,h1,b,h3,g⟩:=h;refine⟨VV hf sz xs x p h3,?_⟩;cases tk with
  |no=>trivial
  |full=>trivial
  |own t=>
   obtain⟨l,e,i⟩:=g;exact hf.lt e
 |.rs id _ _ _,_,h=>by simp only[rel]at h;obtain⟨_,_,l,_,_,h1,_⟩:=h;exact hf.lt h1
 |.nilmap,_,_=>trivial
 |.map id,_,h=>by simp only[rel]at h;obtain⟨l,h1,_⟩:=h;exact hf.lt h1
 |.fn f a c,_,h=>by
  simp only[rel,below]at h⊢;obtain⟨h0,m,n,h1,b,h3⟩:=h;exact⟨nG hf a _ b,nG hf c _ h3⟩
 |.yld id,_,h=>by simp only[rel]at h;obtain⟨l,h1,_⟩:=h;exact hf.lt h1
 |.nilfn,_,_=>trivial
 |.agg cs,_,h=>by
  simp only[rel,below]at h⊢;obtain⟨vs,h1,b,h3⟩:=h;exact nG hf cs _ b
 |.tuple cs,_,h=>by
  simp only[rel,below]at h⊢;obtain⟨vs,h1,b⟩:=h;exact nG hf cs _ b
 |.iface t d,_,h=>by
  simp only[rel,below]at h⊢;obtain⟨u,h1,b⟩:=h;exact nh hf d u b
 |.niliface,_,_=>trivial
theorem nG(hf:kU ρ k):∀(ds:List D)(vs:List Value),wJ M ρ ds vs->qO k ds
 | [],_,_=>trivial
 |d::ds,_,h=>by
  simp only[wJ,qO]at h⊢;obtain⟨v,a,h1,b,h3⟩:=h;exact⟨nh hf d v b,nG hf ds a h3⟩
theorem ZG(hf:kU ρ k):∀(ds:List D)(b p:Nat),kQ M ρ ds b p->qO k ds
 | [],_,_,_=>trivial
 |d::ds,b,p,h=>by
  simp only[kQ,qO]at h⊢;obtain⟨⟨h0,v,h1,a⟩,h3⟩:=h;exact⟨nh hf d v a,ZG hf ds b (p+1) h3⟩
theorem VV(hf:kU ρ k):∀(sz:Nat)(xs:List (List D))(b p:Nat),gy M ρ sz xs b p->oc k xs
 |_,[],_,_,_=>trivial
 |sz,x::xs,b,p,h=>by
  simp only[gy,oc]at h⊢;exact⟨ZG hf x b p h.2.1,VV hf sz xs b (p+sz) h.2.2⟩
end
theorem VZ(hf:kU ρ' k):∀(ds:List (D×D))(f c:List MapEntry),pa M' ρ' ds c->pa M ρ ds f->pa M (Hg k ρ) ds f
 | [],_,_,_,h=>by simpa [pa]using h
 |(x,d)::ds,_,_,h0,h=>by
  simp only[pa]at h h0⊢;obtain⟨e,a,h1,l,h3,m⟩:=h;obtain⟨n,b,_,g,i,j⟩:=h0;exact⟨e,a,h1,pk k M ρ _ _ (nh hf _ _ g) l,pk k M ρ _ _ (nh hf _ _ i) h3,VZ hf ds a b j m⟩
def PX{l E:Loc}(hf:kU ρ' k):∀(n:Obj),s8 M' ρ' w' E n->s8 M ρ w l n->s8 M (Hg k ρ) w l n
 |.row cs,h0,h=>by
  obtain⟨a,c,e,h1,b,h3,f⟩:=h;obtain⟨_,p,_,_,_,_,m⟩:=h0;refine⟨a,c,e,h1,b,h3,λi d j=> ?_⟩;obtain⟨h5,v,x,y⟩:=f i d j;obtain⟨_,_,_,o⟩:=m i d j;exact⟨h5,v,x,pk k M ρ _ _ (nh hf _ _ o) y⟩
 |.tok,_,h=>h
 |.map G,h0,h=>by
  obtain⟨s,q,h1,b⟩:=h;obtain⟨u,_,_,z⟩:=h0;exact⟨s,q,h1,VZ hf _ _ _ z b⟩
 |.loop r,h0,h=>by
  obtain⟨L,h1,b,h3,f,h5,B,C,D⟩:=h;obtain⟨F,_,_,_,_,_,_,_,A⟩:=h0;exact⟨L,h1,b,h3,f,h5,B,C,λi=>pk k M ρ _ _ (nh hf _ _ (A i)) (D i)⟩
 |.siter _ _,_,h=>h
 |.trow t full cs,h0,h=>by
  obtain⟨a,c,e,h1,b,h3,f,g⟩:=h;obtain⟨_,p,_,_,_,_,m,_⟩:=h0;refine⟨a,c,e,h1,b,h3,λi d j=> ?_,g⟩;obtain⟨h5,v,x,y⟩:=f i d j;obtain⟨_,_,_,o⟩:=m i d j;exact⟨h5,v,x,pk k M ρ _ _ (nh hf _ _ o) y⟩
end
def zE.gc{Q:D->Prop}(A:qO h.next args->zE P f args h λd h'=>HLe h h'/\below h.next d/\Q d)(y:pQ P f=true):
  zE P f args h λd h'=>h'=h/\Q d:=by
 refine⟨y,λw0 G M ρ w J n c a hr=> ?_⟩;refine((A (nG a _ _ hr)).2 w0 G M ρ w J n c a hr).mono λe N z=> ?_;obtain⟨v,M',u,d,h',rfl,k1,k2,k3,k4,k5,k6,k7,k8⟩:=z;have o:RLe ρ (Hg h.next u):=λi l b=>by rw[o7 (a.lt b)];exact k2 i l b
 refine⟨v,M',Hg h.next u,d,h,rfl,k1,o,?_,λi b=>iq ow,pk _ _ _ _ _ k7 k5,rfl,k8⟩;refine { below:=k3.below,imm:=k3.imm,live:=λi g b=> ?_,apart:=λi j q r H I b p s t e=> ?_,gdef:=k3.gdef,old:=k3.old }
 ·obtain⟨F,k,K,x⟩:=c.live i g b;obtain⟨l,B,C,E⟩:=k3.live i g (k6 i g b);exact⟨l,by rw[o7 (a.lt k)];exact B,C,PX a g x E⟩
 ·obtain⟨F,k,_⟩:=c.live i q b;obtain⟨L,m,_⟩:=c.live j r p;rw[o7 (a.lt k)]at s;rw[o7 (a.lt m)]at t;exact k3.apart i j q r H I (k6 _ _ b) (k6 _ _ p) s t e
end Go.V
