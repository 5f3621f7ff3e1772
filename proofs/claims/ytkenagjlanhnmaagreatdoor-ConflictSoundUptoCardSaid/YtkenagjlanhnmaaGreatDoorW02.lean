/- A machine of abstract values for programs of the model, and its soundness, part 2. No condition. -/
import Derived.Test.YtkenagjlanhnmaaGreatDoorW01
import Derived.Laws.BytesString
import Derived.Lib.UnsafeStr
import Derived.Lib.LaidTab
import Derived.Lib.ItoaNum
import Derived.Scope
set_option linter.all false
set_option maxHeartbeats 8000000
namespace Go.V
open Go.RowKit (Below)
section
variable{P:Program}{w0:Base}{G:List Nat}{M:Imm}{ρ:Ren}{h:Heap}{w:World}{nid:Nat}
variable{n:Nat}
theorem Zj(a:n<=lim):fits .i64 (n:Int):=by
 rw[p7];unfold lim at a;simp[IntKind.min,IntKind.max,IntKind.signed,IntKind.bits];omega
variable{x d:D}{vx:Value}
def zAv(g:Sim w0 G M ρ h w){t ty:TypeId}(i:rel M ρ x vx)(a:o9 P t x h=some d):YV P w0 G M ρ nid w (Builtin.len_ #[t] ty #[vx]) d h:=by
 unfold o9 at a;split at a
 .split at a
  .rename_i c
   cases a;obtain⟨b,rfl,rfl,f⟩:=i;refine .pure g (v:=.int .i64 b.size) (by simp[Builtin.len_,zU c,goInt]) ?_;exact wx (Zj f)
  .cases a
 .split at a
  .rename_i e c
   cases a;obtain⟨_,f,b,p,cap,⟨k,rfl,j⟩,_⟩:=i;exact .pure g (by simp[Builtin.len_,zU c];rfl) (wx (Zj f))
  .cases a
 .split at a
  .rename_i e c
   cases a;obtain⟨_,f,l,cap,o,_,rfl,_⟩:=i;exact .pure g (by simp[Builtin.len_,zU c];rfl) (wx (Zj f))
  .cases a
 .split at a
  .rename_i e c
   cases a;subst i;exact .pure g (by simp[Builtin.len_,zU c];rfl) (wx (Zj jS))
  .cases a
 .split at a
  .rename_i e c
   cases a;subst i;exact .pure g (by simp[Builtin.len_,zU c];rfl) (wx (Zj (n:=0) jS))
  .cases a
 .cases a
variable{y:D}{vy:Value}
def zAw(f:Sim w0 G M ρ h w){t ty:TypeId}(ats)(g:rel M ρ x vx)(i:rel M ρ y vy)(c:KR x y=some d):YV P w0 G M ρ nid w (Builtin.min_ ats ty #[vx,vy]) d h:=by
 unfold KR at c;split at c
 .rename_i k a k' b
  split at c
  .rename_i e;subst e
   cases c;obtain⟨rfl,j⟩:=g;obtain⟨rfl,l⟩:=i;refine .pure f (v:=.int k (if b<a then b else a)) (by simp[Builtin.min_,Builtin.min2]) (wx ?_)
   split<;>assumption
  .cases c
 .cases c
def FS(f:rel M ρ x vx)(g:rel M ρ y vy)(c:Fk x y=some d):∃v,(Builtin.max2 vx vy).run P w=.ok v w/\rel M ρ d v:=by
 unfold Fk at c;split at c
 .rename_i k a k' b
  split at c
  .rename_i e;subst e
   cases c;obtain⟨rfl,h⟩:=f;obtain⟨rfl,i⟩:=g;refine⟨.int k (if b>a then b else a),by simp[Builtin.max2],wx ?_⟩
   split<;>assumption
  .cases c
 .cases c
theorem MV:∀{ys:List D}{vs:List Value}{x d:D}{b:Value},rel M ρ x b->wG M ρ ys vs->NG x ys=some d->∃v,(vs.foldlM Builtin.max2 b).run P w=.ok v w/\rel M ρ d v
 | [],vs,x,d,b,c,e,a=>by simp_all [wG,NG,wX]
 |y::ys,vs,x,d,b,c,e,a=>by
  obtain⟨v,i,rfl,h1,g⟩:=e;simp only[NG]at a;split at a
  .rename_i z h
   obtain⟨u,j,f⟩:=FS (P:=P) (w:=w) c h1 h;obtain⟨m,k,l⟩:=MV f g a
   simp_all [List.foldlM_cons]
  .cases a
variable{vs:List Value}
def FW(b:Sim w0 G M ρ h w){ty:TypeId}{ys:List D}(ats)(e:rel M ρ x vx)(f:wG M ρ ys vs)(c:NG x ys=some d):YV P w0 G M ρ nid w (Builtin.max_ ats ty (vx::vs).toArray) d h:=by
 obtain⟨v,h1,a⟩:=MV (P:=P) (w:=w) e f c;exact .pure b (by simpa [Builtin.max_]using h1) a
variable{w':World}
def Sim.immLater(d:Sim w0 G M ρ h w)(q:Bel w.heap.size w w'){b:Nat}(f:w.heap.size<=b){c:Array Value}{e:TypeId}{p:Nat×Nat}(r:w'.heap[b]? =some (.cells c e p))(n:Nat):
  MLe M (mC M b 0 (c.toList.take n))/\Sim w0 G (mC M b 0 (c.toList.take n)) ρ h w':=by
 have s:∀o,M b o=none:=d.none_at f;have g:MLe M (mC M b 0 (c.toList.take n)):=lV λo _=>s o;have j:=d.world q;refine⟨g,{ below:=j.below,imm:=λb' o v a=> ?_,live:=λi t a=> ?_,apart:=d.apart,gdef:=j.gdef,old:=ZC d.old (d.nokeep f) }⟩
 .unfold mC at a
  split at a
  .rename_i k
   obtain⟨rfl,_,m⟩:=k;simp only[tD,zu]at a;split at a
   .simp[World.cell?,r];simpa using a
   .cases a
  .exact j.imm b' o v a
 .obtain⟨l,h1,m,h3⟩:=j.live i t a
  have u:=d.old_blk a h1;refine⟨l,h1,m,rU g (RLe.refl _) (λo x=> ?_) h3⟩
  grind [mC]
variable{M:Imm}{ρ:Ren}
theorem Yo:∀{ds:List D}{s:List UInt8}{vs:List Value},oS ds=some s->wG M ρ ds vs->∃b:List Int,vs=b.map (Value.int .u8)/\s=b.map λn=>UInt8.ofNat n.toNat
 | [],s,vs,a,hr=>by simp_all [oS,wX,wG]
 |d::ds,s,vs,a,hr=>by
  obtain⟨v,f,rfl,h1,e⟩:=hr;simp only[oS]at a;split at a
  .rename_i k n
   split at a
   .split at a
    .rename_i g c
     cases a;obtain⟨b,rfl,rfl⟩:=Yo c e;exact⟨n::b,by rw[h1.1];rfl,rfl⟩
    .cases a
   .cases a
  .cases a
def Fe{m:Int}(h:fits .u8 m):(((UInt8.ofNat m.toNat).toNat:Nat):Int)=m:=by
 have h1:=(p7 .u8 m).1 h;simp[IntKind.min,IntKind.max,IntKind.signed,IntKind.bits]at h1;simp;omega
theorem BE:∀{ds:List D}{s:List UInt8}{j:Nat}{d:D}{m:Int},oS ds=some s->ds[j]? =some d->rel M ρ d (.int .u8 m)->fits .u8 m
 | [],s,j,d,m,_,h,_=>by simp at h
 |e::ds,s,0,d,m,a,h,hr=>by
  simp only[oS]at a
  grind [rel]
 |e::ds,s,j+1,d,m,a,h,hr=>by
  simp only[oS]at a;split at a
  .split at a
   .split at a
    .rename_i c b
     exact BE b h hr
    .cases a
   .cases a
  .cases a
theorem VU:∀(a:List Int)(b:ByteArray),(a.foldl (λr n=>r.push (UInt8.ofNat n.toNat)) b).data.toList=b.data.toList++a.map λn=>UInt8.ofNat n.toNat
 | [],b=>by simp
 |n::a,b=>by
  rw[List.foldl_cons,VU a];simp[ByteArray.push]
variable{u T:TypeId}
theorem Pz(H:Sim w0 G M ρ h w)(j:rel M ρ x vx)(a:o8 P u T x=some d):YV P w0 G M ρ nid w (Go.convert u T vx) d h:=by
 unfold o8 at a;split at a
 .rename_i k n
  split at a
  .rename_i k0 g
   split at a
   .rename_i k' f
    cases a;simp only[rel]at j;obtain⟨rfl,_⟩:=j;exact .pure H (v:=.int k' (k'.wrap n)) (by simp[Go.convert,zU g,zU f,Conv.intToInt]) (wx (re _ _))
   .cases a
  .cases a
 .rename_i s
  split at a
  .rename_i g
   split at a
   .rename_i f
    cases a;have Q:=j;simp only[rel]at j;obtain⟨b,rfl,_,_⟩:=j;exact .pure H (v:=.string b) (by simp[Go.convert,zU g,zU f]) Q
   .rename_i e f
    split at a
    .rename_i y
     cases a;simp only[rel]at j;obtain⟨b,rfl,rfl,K⟩:=j
     let cap:=grownCap w b.size 0 e
     let c:Array Value:=(b.data.map λx=>Value.int .u8 x.toNat)++Array.replicate (cap-b.size) (.int .u8 0)
     let S:=(w.drew.alloc (.cells c e)).freeze ⟨w.heap.size,c.size,none⟩ 1
     have t:b.size=b.data.toList.length:=by rw[yI];rfl
     have E:b.size<=cap:=XQ w b.size 0 e;have l:(Go.convert u T (.string b)).run P w=.ok (.slice (some ⟨w.heap.size,0,none⟩) b.size cap) S:=by
      have h1:(Go.convert u T (.string b)).run P w=(Conv.stringToBytes e b).run P w:=by
       simp[Go.convert,zU g,zU f,zU y]
      have L:(w.drew.alloc (.cells c e)).shape? w.heap.size=some (e,c.size):=by
       have:(w.drew.alloc (.cells c e)).heap[w.heap.size]? =some (.cells c e (0,0)):=by
        show(w.heap.push _)[w.heap.size]? =_;simp
       unfold World.shape?;rw[this]
      rw[h1];simp only[Conv.stringToBytes,zq,run_choose,Question.forced,zg,yp,zZ,newRow,ZJ,lU,World.drew_eq,yL,markStringish,run_shape];rw[show((Question.appendCap b.size 0 e).cut (w.tape w.drawn (Question.appendCap b.size 0 e)))=cap from rfl]
      rw[show(w.drew.heap.size)=w.heap.size from rfl]
      rw[show((b.data.map λx=>Value.int .u8 x.toNat)++Array.replicate (cap-b.size) (.int .u8 0))=c from rfl,L]
      rfl
     have A:(w.heap.push (Go.Obj.cells c e))[w.heap.size]? =some (.cells c e (0,0)):=jS;have z:S.heap[w.heap.size]? =some (.cells c e (c.size,c.size+1)):=by
      show((w.heap.push (Go.Obj.cells c e)).modify w.heap.size _)[w.heap.size]? =_;rw[rK,ip rfl,A];rfl
     have D:Bel w.heap.size w S:=⟨⟨rfl,rfl,rfl,by show _<=((w.heap.push (Go.Obj.cells c e)).modify w.heap.size _).size;simp,λk hk=>by
      show((w.heap.push (Go.Obj.cells c e)).modify w.heap.size _)[k]? =_;rw[rK,iq ow,Array.getElem?_push,iq ow]⟩,Nat.le_succ _⟩
     obtain⟨k1,k2⟩:=H.immLater D (zC _) z b.size;refine⟨_,_,_,ρ,l,k1,RLe.refl _,λ_ _=>rfl,k2,?_⟩;simp only[rel];refine⟨ow,by simpa using K,w.heap.size,0,cap,by rw[zI,<-t];exact Ib.mk _ _ _ _,by rw[zI,<-t];exact E,og λi x j=> ?_,trivial⟩;simp only[zm,ze]at j;obtain⟨q,X,rfl⟩:=j;refine⟨rfl,?_⟩;simp only[lM,zV];refine⟨rfl,.int .u8 q.toNat,?_,?_⟩
     .have:=V9 (M:=M) (b:=w.heap.size) (p:=0) (vs:=c.toList.take b.size) (i:=i) (v:=.int .u8 q.toNat) (by
       have F:i<b.size:=by rw[t];exact(zK.1 X).1
       rw[zu,ip F];simp only[c,mH,wk];rw[yj (by simp;exact F),zm,X];rfl)
      simpa using this
     .refine wx ?_
      rw[p7];have:=q.toNat_lt;simp[IntKind.min,IntKind.max,IntKind.signed,IntKind.bits];omega
    .cases a
   .cases a
  .cases a
 .rename_i sz xs tk
  split at a
  .rename_i e g
   split at a
   .rename_i y
    split at a
    .rename_i f
     split at a
     .rename_i O
      subst O;split at a
      .rename_i s I
       cases a;simp only[rel]at j;obtain⟨_,W,b,p,cap,⟨R,rfl,N⟩,J,hE,_⟩:=j;obtain⟨hC,V⟩:=lN hE;have C:∀(o:List Int),s=o.map (λn=>UInt8.ofNat n.toNat)->o.length<=lim->(Go.loadCells ⟨b,p,R⟩ xs.length).run P w=.ok (o.map (Value.int .u8)).toArray w->YV P w0 G M ρ nid w (Go.convert u T (.slice (some ⟨b,p,R⟩) xs.length cap)) (.str s) h:=λo m K l=>by
        have B:=run_bytesToString (P:=P) w ⟨b,p,R⟩ xs.length cap o l;refine .pure H (v:=.string (o.foldl (λr n=>r.push (UInt8.ofNat n.toNat)) ByteArray.empty)) ?_ ?_
        .rw[run_convert_bytes_string w u T e _ _ _ g y f,B]
        .simp only[rel]
         exact⟨_,rfl,by rw[VU,m];rfl,by rw[m,zI];exact K⟩
       rcases N with rfl|rfl
       case inr=>
        obtain rfl:xs= []:=yS ow;simp only[List.flatten_nil,oS,wX]at I;subst I;exact C [] rfl jS (by simp[Go.loadCells,loadCellsFrom])
       obtain⟨vs,Y,Z,U,_⟩:=(H.holds hC).loadCells (P:=P) (off:=0) (n:=xs.length) ow;rw[wN,yP ow]at U;obtain⟨o,rfl,m⟩:=Yo I U;rw[zI]at Y;exact C o m ow Z
      .cases a
     .cases a
    .cases a
   .cases a
  .cases a
 .cases a
def Ig(o:Sim w0 G M ρ h w){m dst:TypeId}(s:rel M ρ x vx)(a:aK P m dst x h=some d):YV P w0 G M ρ nid w (Go.convert m dst vx) d h:=by
 unfold aK at a;split at a
 .rename_i id off
  split at a
  .have k:=s
   obtain⟨l,A,rfl⟩:=s;unfold HB at a;split at a
   .rename_i u full cs z
    split at a
    .obtain⟨E,v,_,hM,c,D,C,B,y,n,r,g⟩:=o.live id _ z
     rw[A]at v;cases v;have q:=g rfl;have i:w.shape? l.blk=some (u,cs.length):=by simp[World.shape?,C,r,q]
     split at a
     .rename_i t e
      split at a
      .rename_i b
       split at a
       .rename_i j p
        split at a
        .rename_i f
         simp only[zF,zO]at f;cases a;exact .pure o (Go.Lib.run_to_unsafe (P:=P) (w:=w) ⟨l.blk,0,none⟩ e b p f.1 i f.2) k
        .cases a
       .cases a
      .cases a
     .rename_i e
      split at a
      .rename_i t b
       split at a
       .rename_i j p
        split at a
        .rename_i f
         cases a;exact .pure o (Go.Lib.run_from_unsafe (P:=P) (w:=w) ⟨l.blk,0,none⟩ e b p i f) k
        .cases a
       .cases a
      .cases a
     .cases a
    .cases a
   .cases a
  .cases a
 .exact Pz o s a
theorem Yn:∀{ds:List D}{s:List UInt8},oS ds=some s->s.length=ds.length
 | [],s,h=>by grind [oS]
 |d::ds,s,h=>by
  simp only[oS]at h;split at h
  .split at h
   .split at h
    .rename_i b a
     cases h;rw[zx,zx,Yn a]
    .cases h
   .cases h
  .cases h
variable{id:Nat}{ob:Obj}{l:Loc}
def Sim.drop(a:Sim w0 G M ρ h w)(r:h.at' id=some ob)(t:ρ id=some l)(y:w'.os=w.os)(z:w'.tape=w.tape)(A:w'.output=w.output)(n:w'.heap.size=w.heap.size)(k:∀b,b≠l.blk->w'.heap[b]? =w.heap[b]?)(hM:∀o,M l.blk o=none)(E:∀d,w.heap[l.blk]? ≠some (.deferred d))(m:w.drawn<=w'.drawn:=by exact zC _):
  Sim w0 G M ρ (h.del id) w':=by
 obtain⟨F,p,u,D⟩:=a.live id ob r;rw[t]at p;cases p;refine { below:=⟨by rw[y];exact a.below.os,by rw[z];exact a.below.tape,by rw[A];exact a.below.output,by rw[n];exact a.below.size,λb s=>by rw[k b λe=>u (e▸s)];exact a.below.block b s,zb a.below.drawn m⟩,imm:=λb o v e=> ?_,live:=λi g e=> ?_,apart:=λi j g C f B e1 e2=> ?_,gdef:=λb x=> ?_,old:=a.old }
 .have c:b≠l.blk:=λq=>by subst q;rw[hM o]at e;cases e
  have:=a.imm b o v e;rw[<-this];exact wa (w:=w) (k b c)
 .simp only[Heap.del]at e
  split at e
  .cases e
  .rename_i c
   obtain⟨f,k1,k2,k3⟩:=a.live i g e;exact⟨f,k1,k2,sM (k _ λq=>c (a.apart i id g ob f l e r k1 t q)) k3⟩
 .simp only[Heap.del]at e1 e2
  split at e1
  .cases e1
  .split at e2
   .cases e2
   .exact a.apart i j g C f B e1 e2
 .obtain⟨k1,k2⟩:=a.gdef b x
  grind
variable{h':Heap}
theorem P2(J:Sim w0 G M ρ h w){t u ty e:TypeId}{n:Int}(C:ρ id=some l)(I:P.underlying t=some (.pointer e))(U:fits .i64 n)(g:Yc P e id n h=some (d,h')):YV P w0 G M ρ nid w (Builtin.unsafeString_ #[t,u] ty #[.pointer (some ⟨l.blk,0,none⟩),.int .i64 n]) d h':=by
 unfold Yc at g;split at g
 .rename_i e2 full cs B
  split at g
  .rename_i N
   simp only[zF,zO]at N;obtain⟨⟨⟨⟨A,x⟩,Y⟩,Z⟩,E⟩:=N;subst A;split at g
   .rename_i s i
    cases g;obtain⟨l',L,g2,hM,c,S,Q,W,O,y,K,_⟩:=J.live id _ B;rw[C]at L;cases L;subst K;have r:s.length=n.toNat:=by rw[Yn i,yB];omega
    obtain⟨vs,q1,q2,R,_,q5⟩:=(J.trow B C).loadCells (P:=P) (off:=0) (n:=n.toNat) ow;obtain⟨ns,rfl,H⟩:=Yo i R;have k:∀m∈ns,fits .u8 m:=λm X=>by
     obtain⟨j,V,rfl⟩:=zz.1 X;have o:j<(cs.take n.toNat).length:=by grind
     obtain⟨v,r1,r2⟩:=th R j (cs.take n.toNat)[j] (zB o);rw[zm,zB V]at r1;cases r1;exact BE i (zB o) r2
    have T:n<=9223372036854775807:=by simp_all [p7]
    have a:=Go.Lib.run_unsafeString_row (P:=P) w t u ty S I x l.blk c.size (by simp[World.shape?,Q]) s (λq=>by rw[q]at r;simp at r;omega) ow ow (λj b z=>by
     rw[H,zm]at z;obtain⟨m,p,D⟩:=ze.1 z;have:=q5 j (.int .u8 m) (by rw[zm,p];rfl);rw[tN];rw[this,<-D,Fe (k m (zh p))])
    have F:(s.length:Int)=n:=ow;rw[F]at a;obtain⟨f,hf⟩:∃f,w.freeze ⟨l.blk,0,none⟩ s.length= { w with heap:=w.heap.modify l.blk f } :=by
     unfold World.freeze;split
     all_goals grind
    rw[hf]at a;refine⟨_,_,M,ρ,a,MLe.refl _,RLe.refl _,λ_ _=>rfl,J.drop B C rfl rfl rfl jS (λb z=> ?_) hM (λdd q=>by rw[Q]at q;cases q),?_⟩
    all_goals grind [rel]
   .cases g
  .cases g
 .cases g
theorem TD(b:Sim w0 G M ρ h w){t u ty e:TypeId}(a:P.underlying t=some (.pointer e)):YV P w0 G M ρ nid w (Builtin.unsafeString_ #[t,u] ty #[.pointer none,.int .i64 0]) (.str []) h:=by
 refine .pure b (v:=.string ⟨#[]⟩) ?_ (by simp only[rel];exact⟨⟨#[]⟩,rfl,rfl,jD⟩);rfl
def TE(b:Sim w0 G M ρ h w){t u ty:TypeId}(c:rel M ρ x vx)(e:rel M ρ y vy)(a:kU P t x y h=some (d,h')):YV P w0 G M ρ nid w (Builtin.unsafeString_ #[t,u] ty #[vx,vy]) d h':=by
 unfold kU at a;split at a
 all_goals grind [rel,P2,TD]
def YB(t u ty e:TypeId)(v:P.underlying t=some (.slice e)){k:IntKind}(y:P.underlying u=some (.int k)){i:TypeInfo}{z:Value}(g:P.info? e=some i)(A:i.zero=some z)(m:Nat)(h:0<m)(n:i.size≠0)(a:m<=lim)(r:m*i.bytes<=lim):
  (Builtin.append_ #[t,u] ty #[.slice none 0 0,.int .i64 (m:Int)]).run P w=.ok (.slice (some ⟨w.heap.size,0,none⟩) m (grownCap w m 0 e))
   (w.drew.alloc (.cells (Builtin.zeroCells z.cells m++Builtin.zeroCells z.cells (grownCap w m 0 e-m)) e)):=by
 have c:¬(9223372036854775807<(m:Int)):=by unfold lim at a;omega
 have s:=growslice_fits (need:=m) (old:=0) (bytes:=i.bytes) h r;have b:¬(281474976710656<Builtin.nextslicecap m 0*i.bytes):=ow;have o:(sizeOf e).run P w=.ok i.size w:=by rw[run_sizeOf _ g];simp[Program.cellsOf,g]
 have p:IntKind.i64.wrap (m:Int)=(m:Int):=Zj a;have d:¬((m:Int)<0):=ow;have f:¬(281474976710656<(m:Int)*(i.bytes:Int)):=by
  have:((m*i.bytes:Nat):Int)<=(lim:Int):=by exact_mod_cast r
  rw[mI]at this;generalize(m:Int)*(i.bytes:Int)=x at this⊢;unfold lim at this;omega
 have l:¬(m*i.size=0):=λq=>by
  rcases Nat.mul_eq_zero.1 q with q|q<;>omega
 have j:¬m=0:=ow;simp[Builtin.append_,zU v,zU y,o,typeInfo,zeroValue,g,A,asInt,asIntOf,p,d,f,l,j,c,b,n,Question.forced,newRow,grownCap,Builtin.firstCells]
def Pw(W:Sim w0 G M ρ h w)(K:ρ nid=none){mu:Bool}{t u ty:TypeId}{s x d:D}(O:rel M ρ s vy)(hx:rel M ρ x vx)
  (a:nz P mu nid t u s x h=some (d,h')):YV P w0 G M ρ nid w (Builtin.append_ #[t,u] ty #[vy,vx]) d h':=by
 unfold nz at a;split at a
 .rename_i kk hu
  split at a
  .rename_i e Y
   split at a
   .split at a
    .rename_i k0 n
     split at a
     .split at a
      .rename_i z hz
       split at a
       .rename_i c
        simp only[zF,zO]at c;obtain⟨⟨⟨⟨⟨⟨Z,R⟩,C⟩,y⟩,ad⟩,E⟩,f⟩:=c;cases a;obtain⟨i,b,l,S,v,Q⟩:=po (P:=P) (M:=M) (ρ:=ρ) (w:=w) hz;subst O;obtain⟨rfl,_⟩:=hx;have A:=sd v;have B:=rm v R;have U:i.size=szT P e:=by simp[szT,Program.cellsOf,l]
        have I:i.bytes=uF P e:=by simp[uF,Program.bytesOf,l]
        have L:(n:Int)=((n.toNat:Nat):Int):=ow;generalize hm:n.toNat=m at *
        have J:0<m:=ow;subst L;have r:=YB (P:=P) (w:=w) t u ty e (sn Y) hu l S m J ow f (by rw[I];exact E);have H:=XQ w m 0 e;have g:b.cells.size=szT P e:=by have:=yw A;rw[C]at this;simpa using this
        have V:(mw m z.cells).length=m*szT P e:=by rw[mw,wq,C]
        have N:=bp A m;have X:Builtin.zeroCells b.cells m=(Array.range (m*szT P e)).map (b.cells[· %b.cells.size]!):=by unfold Builtin.zeroCells;rw[g]
        have F:(Builtin.zeroCells b.cells m++Builtin.zeroCells b.cells (grownCap w m 0 e-m)).size=grownCap w m 0 e*szT P e:=by
         rw[Array.size_append,dh,dh,g,<-qx];congr 1;omega
        have o:(mw m z.cells).length<=(Builtin.zeroCells b.cells m++Builtin.zeroCells b.cells (grownCap w m 0 e-m)).size:=by grind
        have hr:wG M ρ (mw m z.cells) ((Builtin.zeroCells b.cells m++Builtin.zeroCells b.cells (grownCap w m 0 e-m)).toList.take (mw m z.cells).length):=by grind
        have k:m<=grownCap w m 0 e/\grownCap w m 0 e<=maxLen:=⟨H,grownCap_le_maxLen w m 0 e (by unfold maxLen;unfold lim at f;omega)⟩;have j:∀T,Sim w0 G M (nQ ρ nid ⟨w.drew.heap.size,0,(Builtin.zeroCells b.cells m++Builtin.zeroCells b.cells (grownCap w m 0 e-m)).size⟩) (h.new nid T) (w.drew.alloc (.cells (Builtin.zeroCells b.cells m++Builtin.zeroCells b.cells (grownCap w m 0 e-m)) e))->
          YV P w0 G M ρ nid w (Builtin.append_ #[t,u] ty #[.slice none 0 0,.int .i64 (m:Int)]) (.rs nid (szT P e) 0 m) (h.new nid T):=λT p=>by
         refine⟨_,_,M,_,r,MLe.refl _,tA K,λi l=>by simp[nQ,kL l],p,?_⟩;exact⟨y,f,_,grownCap w m 0 e,0,by unfold nQ;rw[ip rfl],rfl,k,by show 0+grownCap w m 0 e*szT P e<=(Builtin.zeroCells b.cells m++Builtin.zeroCells b.cells (grownCap w m 0 e-m)).size;rw[F,yH];exact zC _,.inr rfl⟩
        rcases Zp P e (mw m z.cells)with q|q
        .rw[q]
         exact j _ (W.drew.newRow K e o hr (kJ B _))
        .rw[q]
         exact j _ (W.drew.newTRow K e false o (λq=>by cases q) hr (kJ B _))
       .cases a
      .cases a
     .cases a
    .cases a
   .cases a
  .cases a
 .cases a
variable{t:TypeId}
def TC(N:Sim w0 G M ρ h w)(L:ρ nid=none){mu:Bool}{l c d:D}(W:rel M ρ l vx)(T:rel M ρ c vy)(j:tG P mu nid t l c h=some (d,h')):
  YV P w0 G M ρ nid w (Instr.makeSlice t vx vy) d h':=by
 unfold tG at j;split at j
 .rename_i e k1 n k2 n' U
  obtain⟨rfl,_⟩:=W;obtain⟨rfl,_⟩:=T;split at j
  .rename_i z hz
   obtain⟨i,p,B,ad,v,s⟩:=po (P:=P) (M:=M) (ρ:=ρ) (w:=w) hz;simp only at j;split at j
   .rename_i g
    simp only[zF,zO]at g;obtain⟨⟨⟨⟨⟨⟨K,r⟩,o⟩,X⟩,H⟩,S⟩,b⟩:=g;subst H;have J:=sd v;have A:=rm v K;have a:=bp J n.toNat;rw[r]at a;have I:(((Array.range (n.toNat*szT P e)).map (p.cells[· %p.cells.size]!)):Array Value).size=n.toNat*szT P e:=jS;have k:(mw n.toNat z.cells).length=n.toNat*szT P e:=by rw[mw,wq,r]
    have Y:IntKind.i64.wrap n=n:=by have:=Zj (n:=n.toNat) b;rw[show((n.toNat:Nat):Int)=n by omega]at this;exact this
    have m:(Instr.makeSlice t (.int k1 n) (.int k2 n)).run P w=.ok (.slice (some ⟨w.heap.size,0,none⟩) n.toNat n.toNat) (w.alloc (.cells ((Array.range (n.toNat*szT P e)).map (p.cells[· %p.cells.size]!)) e)):=by
     have E:(typeInfo e).run P w=.ok i w:=by simp[typeInfo,B]
     have V:i.bytes=uF P e:=by simp[uF,Program.bytesOf,B]
     have R:¬((i.bytes:Int)*n>2^48):=by grind [uF,lim]
     have q:(Instr.makeSlice t (.int k1 n) (.int k2 n)).run P w=.ok (.slice (some ⟨w.heap.size,0,none⟩) n.toNat n.toNat) (w.alloc (.cells ((Array.range (n.toNat*szT P e)).map (p.cells[· %p.cells.size]!)) e)):=by
      unfold Instr.makeSlice;simp only[zq,zU (sn U),zZ,asInt,asIntOf,yL,E,Y];have F:((decide (n<0)||decide ((i.bytes:Int)*n>2^48))||decide (n<0)||decide (n>n))=false:=by grind
      simp only[F,zg,yp,zq,run_askRoom,zZ,wC (P:=P) (w:=w) (t:=e) ow];by_cases y:n.toNat*szT P e=0
      .have C:∀f:Nat->Value,(Array.range 0).map f= #[]:=λf=>by simp
       simp only[y,qF,zq,yL,zZ,C,newRow,ZJ,lU]
      .simp only[y,yp,zq,s,yL,zZ,newRow,ZJ,lU]
     exact q
    split at j
    .cases j
     have u:=N.newRow L e (ds:=mw n.toNat z.cells) (c:=(Array.range (n.toNat*szT P e)).map (p.cells[· %p.cells.size]!)) ow (by rw[k,yP jS];exact a) (kJ A _);refine⟨_,_,M,_,m,MLe.refl _,tA L,λi B=>by simp[nQ,kL B],u,?_⟩;exact⟨o,b,_,n.toNat,0,by simp[nQ];rfl,rfl,⟨zC _,by unfold maxLen;unfold lim at b;omega⟩,jS,.inr rfl⟩
    .cases j
     obtain⟨O,Q,g3⟩:=N.newImmRow (n:=n.toNat) e o b k a (kJ A _);refine⟨_,_,_,ρ,m,O,RLe.refl _,λ_ _=>rfl,Q,?_⟩
     have:wK (szT P e) n.toNat (mw n.toNat z.cells)=List.replicate n.toNat z.cells:=by
      have:=np (szT P e) (List.replicate n.toNat z.cells) [] 0 (λx Z=>by rw[(List.mem_replicate.1 Z).2,r]);simpa [wK,mw]using this
     grind
   .cases j
  .cases j
 .cases j
def If(g:Sim w0 G M ρ h w){t ty:TypeId}(s:rel M ρ x vx)(a:dq P t x h=some h'):
  ∃J,(Builtin.clear_ #[t] ty #[vx]).run P w=.ok (.tuple #[]) J/\Sim w0 G M ρ h' J:=by
 unfold dq at a;split at a
 .split at a
  .rename_i e c
   cases a;subst s;exact⟨w,by simp[Builtin.clear_,zU c],g⟩
  .cases a
 .rename_i sz xs tk
  split at a
  .rename_i e c
   split at a
   .rename_i D
    cases a;obtain⟨_,_,b,p,cap,⟨sp,rfl,X⟩,_⟩:=s;rw[D];exact⟨w,by simp[Builtin.clear_,zU c],g⟩
   .cases a
  .cases a
 .rename_i id sz off n
  split at a
  .cases a
  .rename_i e T
   have c:=sn T;split at a
   .cases a
   .rename_i z Y
    obtain⟨h0,Q,l,cap,o,r,rfl,N,C,ho⟩:=s;split at a
    .rename_i R
     cases a;subst R;exact⟨w,by simp[Builtin.clear_,zU c],g⟩
    .rename_i R
     split at a
     .rename_i L
      simp only[zF,zO]at L;obtain⟨I,F⟩:=L;split at a
      .rename_i cs q
       split at a
       .rename_i W
        obtain⟨i,u,U,V,k,j⟩:=po (M:=M) (ρ:=ρ) (w:=w) Y;obtain rfl:o=off:=ow;have m:=sd k;have E:=rm k I;have f:=bp m n;have O:(mw n z.cells).length=n*sz:=by rw[mw,wq,F]
        obtain⟨J,g1,g2⟩:=g.storeRow (P:=P) (off:=o) q r f (kJ E n) ow;have H:u.cells.size=z.cells.length:=by have:=yw m;simpa using this
        have hq:(Builtin.zeroCells u.cells n).toList=((Array.range (n*z.cells.length)).map (u.cells[· %u.cells.size]!)).toList:=by
         unfold Builtin.zeroCells;rw[<-H]
        simp only[Builtin.clear_,uX,wW,zq,zU c,zZ,j]
        simp_all
       .cases a
      .cases a
     .cases a
 .rename_i id
  split at a
  .rename_i kt et c
   split at a
   .rename_i es q
    cases a;obtain⟨l,r,rfl⟩:=s;obtain⟨l',h1,A,Z,K,y,h3⟩:=g.live id _ q;rw[r]at h1;cases h1;have B:l.blk<w.heap.size:=by grind
    refine⟨{ w with heap:=w.heap.setIfInBounds l.blk (.map #[] K) },?_,?_⟩
    .simp[Builtin.clear_,zU c,getObj,setObj,Sem.run,y]
    .refine g.put q r rfl rfl rfl jS (λb S=>by simp only[uv];rw[iq (λe=>S e.symm)]) (λo v e=> ?_) ⟨_,y,λd=>by simp⟩ ⟨#[],K,by simp[B],by simp[pJ]⟩
     have:=g.imm _ _ _ e;simp[World.cell?,y]at this
   .cases a
  .cases a
 .cases a
end
section
variable{P:Program}{w0:Base}{G:List Nat}{M:Imm}{ρ:Ren}{h:Heap}{w:World}{nid:Nat}
theorem me{d k : Nat}{j : Bool}(G : ∀(t : TypeId)(ks : List Kd)(ag : Bool), ru P d t = some ks -> agT P t = some ag -> ∀(s : D)(I : Value), yo ag s = true -> rel M ρ s I ->
      (eqK ks s.cells s.cells).isSome = true -> (Instr.checkKey j (d + k) t I).run P w =.ok () w) :
    ∀(fs : List Field)(off n : Nat)(ks : List Kd), XY (ru P d) P.cellsOf fs off n = some ks -> ∀(as : List D)(xs : Array Value), wG M ρ as xs.toList -> as.all D.flat = true -> (eqK ks (as.drop off) (as.drop off)).isSome = true ->
      (forIn (m := Sem) fs PUnit.unit λf _ => do
        if f.name ≠ "_" then do
          Instr.checkKey j (d + k) f.type (<- part f.type xs f.offset)
          pure (ForInStep.yield PUnit.unit)
        else pure (ForInStep.yield PUnit.unit)).run P w =.ok PUnit.unit w
  | [], _, _, _, _, _, _, _, _, _ => by simp
  | f :: fs, off, n, ks, g, as, xs, x, u, Q => by
    simp only [XY]at g;split at g
    · rename_i b
      simp only [zF, fN, ne_eq, qz]at b;obtain ⟨⟨A, o⟩, B⟩ := b;split at g
      · rename_i h a
        split at g
        · rename_i c
          simp only [qz]at c;simp only [ze]at g;obtain ⟨T, y, rfl⟩ := g;obtain ⟨r, hr⟩ := uf.1 Q;obtain ⟨r1, r2, h1, F, _⟩ := kF hr;obtain ⟨ag, e⟩ : ∃ ag, agT P f.type = some ag := by
            cases hd : d with
            | zero => rw [hd]at a; simp [ru]at a
            | succ V =>
              rw [hd]at a;unfold ru at a;unfold agT;cases hu : P.underlying f.type with
              | none => rw [hu]at a; cases a
              | some td => cases td <;> simp
          have R := (oW h1).1;have E : szT P f.type = h.length := c.symm;have cell : ∃ v i, (part f.type xs f.offset).run P w =.ok v w /\ rel M ρ i v /\ yo ag i = true /\ i.cells = (as.drop off).take h.length := by
            rw [o];cases ag with
            | true =>
              have z : off + h.length <= as.length := by grind
              obtain ⟨v, J, K⟩ := dA (w := w) e x u (off := off) (d :=.agg ((as.drop off).take h.length)) (by simp only [yO, qF, E]; rw [iq (by rw [c]; exact B), ip z]);exact ⟨v, _, J, K, rfl, rfl⟩
            | false =>
              obtain ⟨H, rfl⟩ := lK a e;have l : off < as.length := by grind
              have p : (as.drop off).take [H].length = [as[off]] := by rw [tX, yi l, pT, lS]
              obtain ⟨v, J, K⟩ := dA (w := w) e x u (off := off) (d := as[off]) (by simp [yO, l]);have S : yo false as[off] = true /\ as[off].cells = [as[off]] := by
                rw [p]at h1;generalize as[off] = q at h1 ⊢;cases H <;> cases q <;> simp [eqK, yo, D.cells]at h1 ⊢
              grind
          obtain ⟨v, i, U, L, N, O⟩ := cell;have W := G f.type h ag a e i v N L (by rw [O, h1]; rfl);have C := me G fs (off + h.length) n T y as xs x u (by rw [uC]at F; rw [F]; rfl)
          simp_all [List.forIn_cons]
        · cases g
      · cases g
    · cases g
theorem gk(c : Bool)(k : Nat) : ∀(d : Nat)(t : TypeId)(ks : List Kd)(ag : Bool), ru P d t = some ks -> agT P t = some ag -> ∀(b : D)(j : Value), yo ag b = true -> rel M ρ b j ->
      (eqK ks b.cells b.cells).isSome = true -> (Instr.checkKey c (d + k) t j).run P w =.ok () w
  | 0, t, ks, ag, h, _, _, _, _, _, _ => by simp [ru]at h
  | d + 1, t, ks, ag, h, a, b, j, o, n, m => by
    rw [show d + 1 + k = (d + k) + 1 by omega];unfold ru at h;unfold agT at a;cases hu : P.underlying t with
    | none => rw [hu]at h; cases h
    | some td =>
      rw [hu]at h a;cases td <;> simp only at h a <;> (try (cases h; done))
      all_goals first
        | (injection a with a; subst a
           simp only [Instr.checkKey, zq, zU hu, zZ];rfl)
        | skip
      rename_i fs;injection a with a; subst a;split at h
      · cases h
      · cases b <;> simp [yo]at o
        rename_i as;obtain ⟨xs, rfl, g, f⟩ := n;have := me (λp i e h1 l => gk c k d p i e h1 l) fs.toList 0 _ ks h as xs g f (by simpa [D.cells]using m);simp only [Instr.checkKey, zq, zU hu, zZ]
        simp_all [Array.forIn_toList]
theorem mg:∀{ks:List Kd}{as e:List D}{xs ys:List Value}{n:Nat},eqK ks as e=some true->wG M ρ as xs->wG M ρ e ys->(xs.zip ys).all (λp=>Instr.sameBits n p.1 p.2)=true
 | [],[],[],xs,ys,n,_,a,c=>by simp only[wG]at a c;subst a c;rfl
 |.b::ks,.bool x::as,.bool y::e,xs,ys,n,h,a,c=>by
  simp only[eqK,ze]at h;obtain⟨q,h,d⟩:=h;simp only[zF]at d;simp only[wG,rel]at a c;obtain⟨_,f,rfl,rfl,a⟩:=a;obtain⟨_,g,rfl,rfl,c⟩:=c;rw[d.2]at h;simp only[py,uU,zF];exact⟨by cases n<;>simpa [Instr.sameBits]using d.1,mg h a c⟩
 |.i::ks,.int k x::as,.int k' y::e,xs,ys,n,h,a,c=>by
  simp only[eqK]at h;split at h
  .rename_i m;subst m
   simp only[ze]at h;obtain⟨q,h,d⟩:=h;simp only[zF]at d;simp only[wG,rel]at a c;obtain⟨_,f,rfl,⟨rfl,_⟩,a⟩:=a;obtain⟨_,g,rfl,⟨rfl,_⟩,c⟩:=c;rw[d.2]at h;simp only[py,uU,zF];exact⟨by cases n<;>simpa [Instr.sameBits]using d.1,mg h a c⟩
  .cases h
 |.s::ks,.str x::as,.str y::e,xs,ys,n,h,a,c=>by
  simp only[eqK,ze]at h;obtain⟨q,h,d⟩:=h;simp only[zF]at d;simp only[wG,rel]at a c;obtain⟨_,f,rfl,⟨l,rfl,rfl,_⟩,a⟩:=a;obtain⟨_,g,rfl,⟨j,rfl,rfl,_⟩,c⟩:=c;rw[d.2]at h;simp only[py,uU,zF];refine⟨?_,mg h a c⟩
  have:(l==j)=true:=by rw[beq_toListBytes,uL,uL];exact d.1
  cases n<;>simpa [Instr.sameBits]using this
variable{t:TypeId}
def XW{ag:Bool}{ks:List Kd}(a:N5 P t=some (ag,ks)):ru P 8 t=some ks/\agT P t=some ag:=by grind [N5]
def Qo(ks:List Kd)(M:Imm)(ρ:Ren)(k:D)(es:List (D×D))(i0:Nat)(o:Option (Nat×Value)):Prop:=
 (o=none/\lg ks k es=some none/\∀v,MG ks k v es=some (es++ [(k,v)]))\/
 (∃i k' d u,o=some (i0+i,u)/\es[i]? =some (k',d)/\rel M ρ d u/\eqK ks k.cells k'.cells=some true/\lg ks k es=some (some d)/\∀v,MG ks k v es=some (es.set i (k,v)))
def Qo.later{ks:List Kd}{k k' d:D}{a:List (D×D)}{e:Nat}{o:Option (Nat×Value)}(h:Qo ks M ρ k a (e+1) o)(c:eqK ks k.cells k'.cells=some false):Qo ks M ρ k ((k',d)::a) e o:=by
 rcases h with⟨h1,b,h3⟩ | ⟨i,k2,f,u,h1,b,h3,g,h5,j⟩
 .grind [lg,MG,Qo,eqK]
 .exact .inr ⟨i+1,k2,f,u,by rw[h1];congr 2;omega,by simpa using b,h3,g,by simp[lg,c,h5],λv=>by simp[MG,c,j]⟩
variable{vx:Value}
theorem X4{td:TypeDesc}{ks:List Kd}{k:D}(a:∀(k':D)(j:Value)(b:Bool),rel M ρ k' j->yo false k'=true->eqK ks k.cells k'.cells=some b->Instr.sameNow td vx j=some b):
  ∀(f:List (D×D))(l:List MapEntry)(g:Nat),pJ M ρ f l->(∀e∈f,yo false e.1=true)->(lg ks k f).isSome=true->∃o,Instr.findNow td vx l g=some o/\Qo ks M ρ k f g o
 | [],l,g,hr,_,_=>by simp only[pJ]at hr;subst hr;exact⟨none,rfl,.inl ⟨rfl,rfl,λv=>rfl⟩⟩
 |(k',d)::f,l,g,hr,i,h=>by
  obtain⟨e,m,rfl,h1,p,h3⟩:=hr;simp only[lg]at h;cases c:eqK ks k.cells k'.cells with
  |none=>rw[c]at h;cases h
  |some b=>
   have n:=a k' e.key b h1 (i (k',d) jS) c;cases b with
   |true=>exact⟨some (g,e.val),by simp[Instr.findNow,n],.inr ⟨0,k',d,e.val,rfl,rfl,p,c,by simp[lg,c],λv=>by simp[MG,c]⟩⟩
   |false=>
    rw[c]at h;obtain⟨o,o1,o2⟩:=X4 a f m (g+1) h3 (λe q=>i e (by simp[q])) h;exact⟨o,by simp[Instr.findNow,n,o1],o2.later c⟩
variable{u:TypeId}
theorem df{ks:List Kd}{k:D}(a:∀(k':D)(j:Value)(b:Bool),rel M ρ k' j->yo true k'=true->eqK ks k.cells k'.cells=some b->(Op.equal u vx j).run P w=.ok b w):
  ∀(f:List (D×D))(l:List MapEntry)(g:Nat),pJ M ρ f l->(∀e∈f,yo true e.1=true)->(lg ks k f).isSome=true->∃o,(Instr.findAsking u vx l g).run P w=.ok o w/\Qo ks M ρ k f g o
 | [],l,g,hr,_,_=>by simp only[pJ]at hr;subst hr;exact⟨none,rfl,.inl ⟨rfl,rfl,λv=>rfl⟩⟩
 |(k',d)::f,l,g,hr,i,h=>by
  obtain⟨e,m,rfl,h1,p,h3⟩:=hr;simp only[lg]at h;cases c:eqK ks k.cells k'.cells with
  |none=>rw[c]at h;cases h
  |some b=>
   have n:=a k' e.key b h1 (i (k',d) jS) c;cases b with
   |true=>exact⟨some (g,e.val),by simp[Instr.findAsking,n],.inr ⟨0,k',d,e.val,rfl,rfl,p,c,by simp[lg,c],λv=>by simp[MG,c]⟩⟩
   |false=>
    rw[c]at h;obtain⟨o,o1,o2⟩:=df a f m (g+1) h3 (λe q=>i e (by simp[q])) h;exact⟨o,by simp[Instr.findAsking,n,o1],o2.later c⟩
def Zr{ag:Bool}{ks:List Kd}(s:N5 P u=some (ag,ks)){k:D}(j:rel M ρ k vx)(l:yo ag k=true){h:List (D×D)}{i:List MapEntry}(hr:pJ M ρ h i)(n:∀e∈h,yo ag e.1=true)
  (v:(lg ks k h).isSome=true):∃o,(Instr.findKey u vx i).run P w=.ok o w/\Qo ks M ρ k h 0 o:=by
 obtain⟨f,c⟩:=XW s;have y:∀(k':D)(d:Value)(b:Bool),rel M ρ k' d->yo ag k'=true->eqK ks k.cells k'.cells=some b->(Op.equal u vx d).run P w=.ok b w:=λk' d b h1 r h3=>by
  have:=Pq (P:=P) (M:=M) (ρ:=ρ) (w:=w) 9992 8 u ks ag f c k k' vx d b l r j h1 h3;exact this
 obtain⟨td,p,_⟩:=YF (P:=P) (w:=w) c;cases ag with
 |true=>
  obtain⟨o,o1,o2⟩:=df (P:=P) (w:=w) y h i 0 hr n v;refine⟨o,?_,o2⟩;unfold Instr.findKey;simp only[zq,zU p,zZ];have t:∀a b,Instr.sameNow td a b=none:=by
   intro a b;unfold agT at c;rw[p]at c;cases td<;>simp only at c<;>(try (cases c;done))<;>rfl
  cases i with
  |nil=>simpa [Instr.findAsking,Instr.findNow]using o1
  |cons e q=>
   have hf:Instr.findNow td vx (e::q) 0=none:=by simp[Instr.findNow,t]
   rw[hf];exact o1
 |false=>
  have g:∀(k':D)(d:Value)(b:Bool),rel M ρ k' d->yo false k'=true->eqK ks k.cells k'.cells=some b->Instr.sameNow td vx d=some b:=by
   intro k' d b h1 r h3;obtain⟨A,rfl⟩:=lK f c;unfold ru at f;rw[p]at f;have m:∀fs,td≠ .struct fs:=λfs e=>by subst e;simp[agT,p]at c
   cases td<;>simp only at f<;>(try (cases f;done))<;>(try (exact absurd rfl (m _)))<;>(try (split at f<;>cases f))
   all_goals
    cases k<;>simp[yo]at l<;>cases k'<;>simp[yo]at r<;>simp[D.cells,eqK]at h3;simp only[rel]at j h1
   .subst j h1 h3;rfl
   .obtain⟨rfl,_⟩:=j;obtain⟨rfl,_⟩:=h1;obtain⟨rfl,rfl⟩:=h3;simp[Instr.sameNow]
   .obtain⟨z,rfl,rfl,_⟩:=j;obtain⟨x,rfl,rfl,_⟩:=h1;subst h3;simp only[Instr.sameNow];rw[beq_toListBytes,uL,uL]
  obtain⟨o,o1,o2⟩:=X4 g h i 0 hr n v;refine⟨o,?_,o2⟩;unfold Instr.findKey;simp only[zq,zU p,zZ,o1,yL]
def N9(m:Value):Sem (Array MapEntry):=
 match m with
 |.map none=>pure #[]
 |.map (some r)=>do
  let .map es _<-getObj r|stuck "no map"
  pure es
 |_=>stuck "no map"
def Xe(e:TypeId)(o:Option (Nat×Value)):Sem (Value×Bool):=
 match o with
 |some (_,v)=>pure (v,true)
 |none=>do pure (<-zeroValue e,false)
def Ls(j:Sim w0 G M ρ h w){m:D}{c:List (D×D)}(d:rel M ρ m vx)(a:Wc m h=some c):∃b:Array MapEntry,pJ M ρ c b.toList/\(N9 vx).run P w=.ok b w:=by
 unfold Wc at a;split at a
 .cases a
  subst d;exact⟨#[],by simp[pJ],rfl⟩
 .rename_i id
  split at a
  .rename_i e g
   cases a;obtain⟨l,i,rfl⟩:=d;obtain⟨n,h1,_,b,k,f,h3⟩:=j.live id _ g;rw[i]at h1;cases h1;exact⟨b,h3,by simp[N9,getObj,Sem.run,f]⟩
  .cases a
 .cases a
def Jw(P:Program)(w:World)(t kt e:TypeId)(h c:Value)(ok:Bool)(j:P.underlying t=some (.map kt e)){g:Array MapEntry}(b:(N9 h).run P w=.ok g w):
  (Instr.lookup t h c ok).run P w=(do
   Instr.checkKey g.isEmpty 10000 kt c
   let o<-Instr.findKey kt c g.toList
   let (v,p)<-Xe e o
   pure (if ok then .tuple #[v,.bool p]else v):Sem Value).run P w:=by
 unfold Instr.lookup;simp only[zq,zU j,zZ];have tail:∀(d:Array MapEntry)(w:World),(do
   Instr.checkKey d.isEmpty 10000 kt c
   match<-Instr.findKey kt c d.toList with
    |some (_,v)=>do
     let x<-pure (v,true)
     pure (if ok=true then Value.tuple #[x.1,Value.bool x.2]else x.1)
    |none=>do
     let l<-zeroValue e
     let x<-pure (l,false)
     pure (if ok=true then Value.tuple #[x.1,Value.bool x.2]else x.1):Sem Value).run P w =
   (Sem.run P (Instr.checkKey d.isEmpty 10000 kt c) w).andThen λ_ f=>
    (Sem.run P (Instr.findKey kt c d.toList) f).andThen λa f=>
     (Sem.run P (Xe e a) f).andThen λa f=>
      Sem.run P (pure (if ok=true then Value.tuple #[a.fst,Value.bool a.snd]else a.fst)) f:=by
  intro d w;simp only[zq];congr 1;funext _ m;congr 1;funext o w2;cases o with
  |none=>
   simp only[Xe,zq,yL];cases(zeroValue e).run P w2<;>rfl
  |some p=>rfl
 cases h with
 |map r=>
  cases r with
  |none=>
   cases b;exact tail #[] w
  |some r=>
   simp only[N9,zq]at b⊢;cases i:(getObj r).run P w with
   |ok k m=>
    rw[i]at b;cases k with
    |map d n=>
     cases b;exact tail g w
    |_=>cases b
   |_=>rw[i]at b;cases b
 |_=>cases b
variable{vy:Value}
def Lv(F:Sim w0 G M ρ h w){m k d:D}{ok:Bool}(S:rel M ρ m vx)(K:rel M ρ k vy)(a:uM P t m k ok h=some d):YV P w0 G M ρ nid w (Instr.lookup t vx vy ok) d h:=by
 unfold uM at a;split at a
 .cases a
 .rename_i kt e C
  split at a
  .cases a
  .rename_i ag ks l
   split at a
   .cases a
   .rename_i z T
    obtain⟨i,U,_,_,E,f⟩:=po (P:=P) (M:=M) (ρ:=ρ) (w:=w) T;split at a
    .cases a
    .rename_i H y
     unfold fC at a;split at a
     .rename_i J
      simp only[zF]at J;obtain⟨⟨g,A⟩,I⟩:=J;have c:∀e∈H,yo ag e.1=true:=by grind
      obtain⟨W,x,n⟩:=Ls (P:=P) F S y;obtain⟨R,q⟩:=XW l;have s:=λp=>gk (P:=P) (M:=M) (ρ:=ρ) (w:=w) p 9992 8 kt ks ag R q k vy g K A;split at a
      .rename_i r hr
       cases a;have B:(lg ks k H).isSome=true:=by rw[hr];rfl
       obtain⟨o,o1,o2⟩:=Zr (P:=P) (w:=w) l K g x c B;have L:∀(v:Value)(b:Bool),(Xe e o).run P w=.ok (v,b) w->
         (Instr.lookup t vx vy ok).run P w=.ok (if ok then .tuple #[v,.bool b]else v) w:=by
        rw[Jw P w t kt e vx vy ok (Xg C) n];simp only[zq];rw[show(10000:Nat)=8+9992 from rfl,s]
        simp_all
       rcases o2 with⟨rfl,N,_⟩ | ⟨j,k',V,u,rfl,_,O,_,Q,_⟩
       .rw[N]at hr
        cases hr;refine .pure F (L U false (by simp[Xe,f])) ?_;cases ok with
        |true=>
         grind [dx,rel,wG,uW]
        |false=>simpa [dx]using E
       .rw[Q]at hr
        cases hr;refine .pure F (L u true rfl) ?_;cases ok with
        |true=>
         grind [dx,rel,wG,uW]
        |false=>simpa [dx]using O
      .cases a
     .cases a
theorem YH:∀{ks:List Kd}{as a:List D}{b:Bool},eqK ks as a=some b->eqK ks a as=some b
 | [],[],[],b,h=>h
 |.b::ks,.bool x::as,.bool y::a,b,h=>by
  simp only[eqK,ze]at h⊢;obtain⟨q,h,c⟩:=h;exact⟨q,YH h,by rw[<-c,kX]⟩
 |.i::ks,.int k x::as,.int k' y::a,b,h=>by
  simp only[eqK]at h⊢;split at h
  .rename_i d;subst d
   rw[ip rfl];simp only[ze]at h⊢;obtain⟨q,h,c⟩:=h;exact⟨q,YH h,by rw[<-c,kX]⟩
  .cases h
 |.s::ks,.str x::as,.str y::a,b,h=>by
  simp only[eqK,ze]at h⊢;obtain⟨q,h,c⟩:=h;exact⟨q,YH h,by rw[<-c,kX]⟩
theorem zAg{ks:List Kd}{ag:Bool}{k k':D}(n:Nat)(h1:rel M ρ k vx)(d:rel M ρ k' vy)(s1:yo ag k=true)(s2:yo ag k'=true)(c:eqK ks k.cells k'.cells=some true):Instr.sameBits (n+1) vx vy=true:=by
 cases ag with
 |true=>
  cases k<;>simp[yo]at s1;cases k'<;>simp[yo]at s2;obtain⟨xs,rfl,e,_⟩:=h1;obtain⟨ys,rfl,f,_⟩:=d;have j:=oW c;have i:xs.size=ys.size:=by
   have a:=yw e;have b:=yw f
   grind [D.cells]
  have:=mg (n:=n) c e f;simp only[Instr.sameBits,i,pN,uT];simpa using this
 |false=>
  have g:k.cells= [k]:=by cases k<;>simp[yo]at s1<;>rfl
  have h:k'.cells= [k']:=by cases k'<;>simp[yo]at s2<;>rfl
  rw[g,h]at c;have:=mg (M:=M) (ρ:=ρ) (xs:=[vx]) (ys:=[vy]) (n:=n+1) c ⟨vx,[],rfl,h1,rfl⟩ ⟨vy,[],rfl,d,rfl⟩;simpa using this
theorem QM{k d:D}{e:MapEntry}(m:rel M ρ k e.key)(l:rel M ρ d e.val):∀{b:List (D×D)}{a:List MapEntry}(i:Nat),pJ M ρ b a->pJ M ρ (b.set i (k,d)) (a.set i e)
 | [],a,i,h=>by grind [pJ]
 |(k',c)::b,a,0,h=>by grind [pJ]
 |(k',c)::b,a,i+1,h=>by
  obtain⟨f,g,rfl,h1,j,h3⟩:=h;exact⟨f,_,rfl,h1,j,QM m l i h3⟩
theorem Vc{k d:D}{e:MapEntry}(j:rel M ρ k e.key)(i:rel M ρ d e.val):∀{b:List (D×D)}{a:List MapEntry},pJ M ρ b a->pJ M ρ (b++ [(k,d)]) (a++ [e])
 | [],a,h=>by grind [pJ]
 |(k',l)::b,a,h=>by
  obtain⟨c,f,rfl,h1,g,h3⟩:=h;exact⟨c,_,rfl,h1,g,Vc j i h3⟩
theorem QL:∀{c:List (D×D)}{b:List MapEntry},pJ M ρ c b->∀(i:Nat)(k d:D),c[i]? =some (k,d)->∃e,b[i]? =some e/\rel M ρ k e.key/\rel M ρ d e.val
 | [],_,_,i,k,d,a=>by simp at a
 |(k',l)::c,b,h,i,k,d,a=>by
  obtain⟨f,g,rfl,h1,j,h3⟩:=h;cases i with
  |zero=>simp at a;obtain⟨rfl,rfl⟩:=a;exact⟨f,rfl,h1,j⟩
  |succ i=>simp at a;simpa using QL h3 i k d a
variable{h':Heap}
def bu(S:Sim w0 G M ρ h w){m k v:D}{vm g r:Value}(hm:rel M ρ m vm)(I:rel M ρ k g)(E:rel M ρ v r)(c:wv P t m k v h=some h'):
  ∃w',(Instr.mapUpdate t vm g r).run P w=.ok () w'/\Sim w0 G M ρ h' w':=by
 unfold wv at c;split at c
 .cases c
 .rename_i kt e B
  split at c
  .rename_i ag ks z
   split at c
   .rename_i id
    split at c
    .rename_i es X
     split at c
     .rename_i W
      simp only[zF]at W;obtain⟨⟨⟨y,N⟩,V⟩,R⟩:=W;have q:∀e∈es,yo ag e.1=true:=by grind
      split at c
      .rename_i x a
       cases c;obtain⟨l,Y,rfl⟩:=hm;obtain⟨l',h1,L,s,F,H,h3⟩:=S.live id _ X;rw[Y]at h1;cases h1;obtain⟨h8,K⟩:=XW z;have ad:=gk (P:=P) (M:=M) (ρ:=ρ) (w:=w) false 9992 8 kt ks ag h8 K k g y I N;obtain⟨o,o1,o2⟩:=Zr (P:=P) (w:=w) z I y h3 q R;have n:(getObj l.blk).run P w=.ok (.map s F) w:=by simp[getObj,Sem.run,H]
       have Z:∀U:Go.Obj,(setObj l.blk U).run P w=.ok () { w with heap:=w.heap.setIfInBounds l.blk U } :=λU=>by simp[setObj,Sem.run,H]
       have f:∀(i:Array MapEntry)(p:Nat),pJ M ρ x i.toList->Sim w0 G M ρ (h.set id (.map x)) { w with heap:=w.heap.setIfInBounds l.blk (.map i p) } :=by
        intro i p C;have Q:l.blk<w.heap.size:=by grind
        refine S.put X Y rfl rfl rfl jS (λb hb=>by simp only[uv];rw[iq (λe=>hb e.symm)]) (λo v e=> ?_) ⟨_,H,λd=>by simp⟩ ⟨i,p,by simp[Q],C⟩;have:=S.imm _ _ _ e;simp[World.cell?,H]at this
       rcases o2 with⟨rfl,_,f1⟩ | ⟨j,k',d',u,rfl,f2,f3,f4,_,f5⟩
       .rw[f1]at a
        cases a;refine⟨_,?_,f (s.push { key:=g,val:=r,born:=F }) (F+1) (by rw[Array.toList_push];exact Vc I E h3)⟩;unfold Instr.mapUpdate;simp only[zq,zU (Xg B),zZ,n]
        simp_all
       .rw[f5]at a
        cases a;obtain⟨J,e1,e2,e3⟩:=QL h3 j k' d' f2;have O:(Instr.keyThatStays J.key g).run P w=.ok g w:=by
         have T:Instr.sameBits 10000 J.key g=true:=by grind [zAg,YH]
         simp[Instr.keyThatStays,T]
        have A:(s.modify j λe=> { e with key:=g,val:=r }).toList=s.toList.set j { J with key:=g,val:=r } :=by
         apply oN
         grind
        refine⟨_,?_,f (s.modify j λe=> { e with key:=g,val:=r }) F (by rw[A];exact QM I E j h3)⟩;unfold Instr.mapUpdate;simp only[zq,zU (Xg B),zZ,n]
        simp_all [yH,qZ,zA]
      .cases c
     .cases c
    .cases c
   .cases c
  .cases c
def P1(c:Sim w0 G M ρ h w)(a:ρ nid=none) :YV P w0 G M ρ nid w (Instr.makeMap t none) (.map nid) (h.new nid (.map [])):=by
 have k:=c.allocObj a (.map #[] 0) (.map []) ⟨w.heap.size,0,0⟩ rfl ⟨#[],0,by show(w.heap.push _)[w.heap.size]? =_;simp,by simp[pJ]⟩;refine⟨.map (some w.heap.size),_,M,_,by simp[Instr.makeMap],MLe.refl _,tA a,λi b=>by simp[nQ,kL b],k,?_⟩
 simp_all [rel,nQ]
end
def FL:Operand->Bool
 |.tmp _=>true
 |.const v=>kE v
 |.global _=>false
 |.func _=>true
def Pe(o:Op):Bool:=o.operands.toList.all FL
def YN(P:Program)(w0:Base)(G:List Nat)(M:Imm)(ρ:Ren)(nid:Nat)(w:World)(s:Sem Next)(d:D)(h':Heap):Prop:=
 ∃nx v w' M' ρ',s.run P w=.ok nx w'/\(nx=.value v\/(nx=.skip/\v=undef))/\MLe M M'/\RLe ρ ρ'/\(∀i,h'.next<=i\/i≠nid->ρ' i=ρ i)/\Sim w0 G M' ρ' h' w'/\rel M' ρ' d v
section
variable{P:Program}{w0:Base}{G:List Nat}{M:Imm}{ρ:Ren}{h:Heap}{w:World}{nid:Nat}
variable{d:D}{h':Heap}
def YV.next{s:Sem Value}(k:YV P w0 G M ρ nid w s d h'):YN P w0 G M ρ nid w (do Pure.pure (Next.value (<-s))) d h':=by
 obtain⟨v,a,M',b,k1,k2,k3,k4,k5,k6⟩:=k;exact⟨.value v,v,a,M',b,by simp[k1],.inl rfl,k2,k3,k4,k5,k6⟩
theorem gj:rel M ρ si undef:=by
 unfold si undef
 grind [rel,wG]
def YN.skip{s:Sem Unit}(k:∃a,s.run P w=.ok () a/\Sim w0 G M ρ h' a):YN P w0 G M ρ nid w (do s;pure Next.skip) si h':=by
 obtain⟨a,k1,k2⟩:=k;exact⟨.skip,undef,a,M,ρ,by simp[k1],.inr ⟨rfl,rfl⟩,MLe.refl _,RLe.refl _,λ_ _=>rfl,k2,gj⟩
variable{v:Value}
def YN.still{s:Sem Next}(b:Sim w0 G M ρ h w)(hr:s.run P w=.ok (.value v) w)(a:rel M ρ d v):YN P w0 G M ρ nid w s d h:=
 ⟨.value v,v,w,M,ρ,hr,.inl rfl,MLe.refl _,RLe.refl _,λ_ _=>rfl,b,a⟩
variable{fr:Frm}
def fy{a:Act}(hf:VX M ρ fr a.tmps):∀{x:Operand},FL x=true->rel M ρ (qy fr x) (a.eval x)
 |.tmp t,_=>hf t
 |.const v,h=>Po v h
 |.global _,h=>by simp[FL]at h
 |.func f,_=>by
  simp only[qy,Act.eval,rel,wG]
  grind
theorem gi{a:Act}(hf:VX M ρ fr a.tmps):∀{xs:List Operand},xs.all FL=true->wG M ρ (xs.map (qy fr)) (xs.map a.eval)
 | [],_=>rfl
 |x::xs,h=>by
  simp only[uU,zF]at h;exact⟨_,_,rfl,fy hf h.1,gi hf h.2⟩
variable{t:TypeId}{x:D}{vx:Value}
def Ij(j:Sim w0 G M ρ h w)(e:ρ nid=none)(l:rel M ρ x vx)(a:WO P nid t x h=some (d,h')):YV P w0 G M ρ nid w (Instr.range t vx) d h':=by
 unfold WO at a;split at a
 .rename_i s
  split at a
  .rename_i k
   cases a;obtain⟨b,rfl,rfl,c⟩:=l;have f:=j.allocObj e (.stringIter b 0) (.siter b.data.toList 0) ⟨w.heap.size,0,0⟩ rfl ⟨b,by show(w.heap.push _)[w.heap.size]? =_;simp,rfl⟩;refine⟨.pointer (some ⟨w.heap.size,0,none⟩),_,M,_,?_,MLe.refl _,tA e,λi g=>by simp[nQ,kL g],f,?_⟩
   .simp only[Instr.range,zq,zU k,zZ,yL,ZJ,lU]
   .simp_all [rel,nQ]
  .cases a
 .cases a
def FX(i:Sim w0 G M ρ h w){ty:TypeId}{g:Bool}(B:rel M ρ x vx)(a:Wn x g h=some (d,h')):YV P w0 G M ρ nid w (Instr.next vx g ty) d h':=by
 unfold Wn at a;split at a
 .rename_i id off
  split at a
  .rename_i s pos r
   split at a
   .rename_i q
    simp only[zF,zO]at q;obtain⟨rfl,rfl⟩:=q;obtain⟨l,t,rfl⟩:=B;obtain⟨C,h1,m,b,f,j⟩:=i.live id _ r;rw[t]at h1;cases h1;have A:b.size=s.length:=by rw[<-j,yI];rfl
    have n:(⟨s.toArray⟩:ByteArray)=b:=by rw[<-j]
    have p:l.blk<w.heap.size:=by grind
    split at a
    .rename_i z
     split at a
     .rename_i hr
      simp only[zF,zO,qz]at hr;cases a;have u:Sim w0 G M ρ (h.set id (.siter s (pos+(rY s pos).2))) { w with heap:=w.heap.setIfInBounds l.blk (.stringIter b (pos+(rY s pos).2)) } :=by
       refine i.put r t rfl rfl rfl jS (λb' k=>by simp only[uv];rw[iq (λe=>k e.symm)]) (λo v e=> ?_) ⟨_,f,λd=>by simp⟩ ⟨b,by simp[p],j⟩;have:=i.imm _ _ _ e;simp[World.cell?,f]at this
      refine⟨.tuple #[.bool true,.int .i64 pos,.int .i32 (rY s pos).1],_,M,ρ,?_,MLe.refl _,RLe.refl _,λ_ _=>rfl,u,?_⟩
      .have c:pos<b.size:=ow
       have y:Utf8.decode b pos=rY s pos:=by unfold rY;rw[n]
       simp only[Instr.next,getObj,zq,Sem.run,f,zZ,c,qF,y];simp[setObj,Sem.run,f];rfl
      .simp only[rel,wG]
       refine⟨_,rfl,_,_,rfl,rfl,_,_,rfl,⟨rfl,?_⟩,_,_,rfl,⟨rfl,hr.2⟩,rfl⟩
       grind [Zj]
     .cases a
    .rename_i z
     cases a;have c:¬pos<b.size:=ow;refine .pure i (v:=.tuple #[.bool false]) ?_ ?_
     .simp only[Instr.next,getObj,zq,Sem.run,f,zZ,c,yp]
      rfl
     .grind [rel,wG]
   .cases a
  .cases a
 .cases a
variable{α β:Type}
def wZ{o:Option α}{f:α->β}{b:β}(h:o.map f=some b):∃a,o=some a/\f a=b:=by simpa [ze]using h
variable{ds:List D}
def Py(f:Sim w0 G M ρ h w)(C:ρ nid=none){mu:Bool}{b:Builtin}{g:Array TypeId}{ty:TypeId}{cs:Array Bool}{vs:Array Value}(hr:wG M ρ ds vs.toList)
  (a:n7 P mu nid b g.toList ds h=some (d,h')):YN P w0 G M ρ nid w (builtin b g ty cs vs) d h':=by
 obtain⟨g⟩:=g;obtain⟨vs⟩:=vs;simp only at hr a;unfold n7 at a;split at a
 .split at a
  .split at a
   .simp only[wG]at hr
    obtain⟨v,_,rfl,hr,rfl⟩:=hr;obtain⟨e,h1,m⟩:=wZ a;cases m;exact(zAv f hr h1).next
   .cases a
  .cases a
 .split at a
  .split at a
   .rename_i t u s x
    split at a
    .rename_i i
     obtain⟨v,_,rfl,hr,z,_,rfl,c,rfl⟩:=hr;unfold pC at i;split at i
     .cases i
     .rename_i J j p
      exact(Pv f C p (λk e=>by subst e;first|exact j k rfl|exact j k p) hr c a).next
     .cases i
    .simp only[wG]at hr
     obtain⟨v,_,rfl,hr,z,_,rfl,c,rfl⟩:=hr;exact YV.next (s:=Builtin.append_ _ ty _) (Pw f C hr c a)
   .cases a
  .cases a
 .split at a
  .simp only[wG]at hr
   obtain⟨v,_,rfl,hr,z,_,rfl,c,rfl⟩:=hr;obtain⟨e,h1,m⟩:=wZ a;cases m;exact(zAw (t:=0) f _ hr c h1).next
  .cases a
 .split at a
  .rw[wG]at hr
   obtain⟨v,vs,rfl,hr,c⟩:=hr;obtain⟨e,h1,m⟩:=wZ a;cases m;exact(FW f _ hr c h1).next
  .cases a
 .split at a
  .split at a
   .split at a
    .rename_i x
     obtain⟨v,_,rfl,hr,rfl⟩:=hr;split at a
     .rename_i e p
      cases a;subst hr;refine YV.next (s:=Builtin.cap_ _ ty _) (.pure f (v:=.int .i64 0) (by simp[Builtin.cap_,zU p,goInt]) (wx ?_));rw[p7];simp[IntKind.min,IntKind.max,IntKind.signed,IntKind.bits]
     .cases a
    .cases a
   .cases a
  .cases a
 .split at a
  .split at a
   .split at a
    .rename_i x id sz off n
     obtain⟨v,_,rfl,hr,rfl⟩:=hr;split at a
     .cases a
     .rename_i I r
      cases a;obtain⟨_,E,l,cap,o,H,rfl,A,B,y⟩:=hr;have D:n≠0:=λq=>r q;obtain rfl:o=0:=y.resolve_left ow;refine YV.next (s:=Builtin.unsafeSliceData_ _ ty _) (.pure f (Go.Lib.run_unsafeSliceData_row w _ _ ⟨l.blk,0,none⟩ n cap ow) ?_)
      grind [rel]
     .cases a
    .simp only[wG]at hr
     obtain⟨v,_,rfl,hr,rfl⟩:=hr;cases a;subst hr;exact YV.next (s:=Builtin.unsafeSliceData_ _ ty _) (.pure f rfl (by simp only[rel]))
    .cases a
   .cases a
  .cases a
 .split at a
  .split at a
   .simp only[wG]at hr
    obtain⟨v,_,rfl,hr,z,_,rfl,c,rfl⟩:=hr;exact YV.next (s:=Builtin.unsafeString_ _ ty _) (TE f hr c a)
   .cases a
  .cases a
 .split at a
  .split at a
   .simp only[wG]at hr
    obtain⟨v,_,rfl,hr,rfl⟩:=hr;obtain⟨e,h1,m⟩:=wZ a;cases m;obtain⟨F,k1,k2⟩:=If (ty:=ty) f hr h1;refine YV.next (s:=Builtin.clear_ _ ty _) ⟨_,F,M,ρ,k1,MLe.refl _,RLe.refl _,λ_ _=>rfl,k2,gj⟩
   .cases a
  .cases a
 .cases a
variable{o:Oper}
theorem BH(A:Sim w0 G M ρ h w)(J:ρ nid=none){mu:Bool}{a:Act}(hf:VX M ρ fr a.tmps)(H:Pe o.op=true)(q:vop P mu nid o.op (qy fr) h=some (d,h')):
  YN P w0 G M ρ nid w (execOp a.eval o) d h':=by
 obtain⟨dst,op,ty,pos,after,guard⟩:=o;have j:∀x∈op.operands.toList,rel M ρ (qy fr x) (a.eval x):=λx E=>fy hf (zT.1 H x E);cases op<;>simp only[vop]at q<;>(try (cases q;done))<;>simp only[Op.operands]at j<;>simp only[execOp]
 case move x=>cases q;exact .still A rfl (j x jS)
 case assign x=>cases q;exact .still A rfl (j x jS)
 case pick c x y=>
  have F:=j c jS;split at q
  .rename_i e;rw[e]at F;simp only[rel]at F;cases q;exact .still A (by simp[F,asBool]) (j x jS)
  .rename_i e;rw[e]at F;simp only[rel]at F;cases q;exact .still A (by simp[F,asBool]) (j y jS)
  .cases q
 case alloc t=>
  split at q
  .rename_i z K
   split at q
   .rename_i L;cases q;exact(Ic A J K L).next
   .cases q
  .cases q
 case box t x=>
  split at q
  .rename_i L
   split at q
   .rename_i hm;cases q;exact(WA A J (j x jS) L).next
   .cases q;exact(Px A (j x jS) L).next
  .cases q
 case build t ps=>
  obtain⟨e,h1,B⟩:=wZ q;cases B;exact(Ie A (qy fr) a.eval (λp R=>j p.2 (by simp;exact⟨p.1,by simpa using R⟩)) h1).next
 case buildSlice t n ps=>
  exact(Wk A J (qy fr) a.eval (λp R=>j p.2 (by simp;exact⟨p.1,by simpa using R⟩)) q).next
 case load t x=>
  obtain⟨e,h1,B⟩:=wZ q;cases B;exact(FV A (j x jS) h1).next
 case store t x y=>
  obtain⟨e,h1,B⟩:=wZ q;cases B;exact .skip (Im A (j x jS) (j y jS) h1)
 case nilCheck x=>
  obtain⟨e,h1,B⟩:=wZ q;cases B;have E:=j x jS;unfold qL at h1;split at h1<;>(try (cases h1;done))<;>rename_i e<;>rw[e]at E<;>cases h1
  .have D:=E
   simp only[rel]at D;obtain⟨l,_,e⟩:=D;rw[e]at E⊢;exact .still A rfl E
  .have D:=E
   simp only[rel]at D;obtain⟨b,p,e,_⟩:=D;rw[e]at E⊢;exact .still A rfl E
  .have D:=E
   simp only[rel]at D;obtain⟨_,va,vc,e,_⟩:=D;rw[e]at E⊢;exact .still A rfl E
  .have D:=E
   simp only[rel]at D;obtain⟨l,_,e⟩:=D;rw[e]at E⊢;exact .still A rfl E
 case binOp op t x y u=>
  obtain⟨e,h1,B⟩:=wZ q;cases B;exact(zAu A x y (j x jS) (j y jS) h1).next
 case unOp op t x=>
  obtain⟨e,h1,B⟩:=wZ q;cases B;exact(zG6 A (j x jS) h1).next
 case convert s t x=>
  obtain⟨e,h1,B⟩:=wZ q;cases B;exact(Ig A (j x jS) h1).next
 case makeInterface t x=>
  split at q
  .rename_i F
   cases q;unfold zEW at F;refine YV.next (YV.pure (s:=Instr.makeInterface t (a.eval x)) A (v:=.iface t (a.eval x)) ?_ (by simp only[rel];exact⟨_,rfl,j x jS⟩));split at F
   .cases F
   .rename_i W I U
    cases W<;>first|(exact absurd rfl (I _);done)|(exact absurd U (I _);done)|(simp only[Instr.makeInterface,zq,zU U,zZ];rfl)
   .cases F
  .cases q
 case makeFunc g x y=>
  split at q
  .rename_i f
   cases q;refine YV.next (YV.pure (s:=Instr.makeFunc (.func f) (x.map a.eval) (y.map a.eval)) A (v:=.func (.func f) (x.map a.eval) (y.map a.eval)) (by simp[Instr.makeFunc]) ?_);simp only[rel];refine⟨⟨f,rfl⟩,_,_,rfl,?_,?_⟩
   .rw[wk];exact gi hf (zT.2 λz K=>zT.1 H z (by simp[Op.operands];exact .inl (by simpa using K)))
   .rw[wk];exact gi hf (zT.2 λz K=>zT.1 H z (by simp[Op.operands];exact .inr (by simpa using K)))
  .cases q
 case makeMap t r=>
  split at q
  .cases q;exact(P1 A J).next
  .cases q
 case makeSlice t x y=>exact(TC A J (j x jS) (j y jS) q).next
 case slice t x lo hi mx=>
  obtain⟨e,h1,B⟩:=wZ q;cases B;unfold uN at h1;split at h1
  .rename_i na Z S
   cases mx with
   |some m=>cases h1
   |none=>
    refine(L4 (vlo:=lo.map a.eval) (vhi:=hi.map a.eval) A S (j x jS) ?_ ?_ ?_ ?_ h1).next
    .intro d C;cases lo with
     |none=>cases C
     |some z=>cases C;exact⟨_,rfl,j z jS⟩
    .intro C;cases lo with
     |none=>rfl
     |some z=>cases C
    .intro d C;cases hi with
     |none=>cases C
     |some z=>cases C;exact⟨_,rfl,j z jS⟩
    .intro C;cases hi with
     |none=>rfl
     |some z=>cases C
  cases mx with
  |some m=>
   cases hi with
   |none=>simp[fG]at h1
   |some u=>
    refine(Lz (vlo:=lo.map a.eval) A (j x jS) ?_ ?_ (j u jS) (j m jS) h1).next
    .intro d C;cases lo with
     |none=>cases C
     |some z=>cases C;exact⟨_,rfl,j z jS⟩
    .intro C;cases lo with
     |none=>rfl
     |some z=>cases C
  |none=>
   refine(Il (vlo:=lo.map a.eval) (vhi:=hi.map a.eval) A (j x jS) ?_ ?_ ?_ ?_ h1).next
   .intro d C;cases lo with
    |none=>cases C
    |some z=>cases C;exact⟨_,rfl,j z jS⟩
   .intro C;cases lo with
    |none=>rfl
    |some z=>cases C
   .intro d C;cases hi with
    |none=>cases C
    |some z=>cases C;exact⟨_,rfl,j z jS⟩
   .intro C;cases hi with
    |none=>rfl
    |some z=>cases C
 case fieldAddr t x f=>
  obtain⟨e,h1,B⟩:=wZ q;cases B;exact(TA A (j x jS) h1).next
 case field t x f=>
  obtain⟨e,h1,B⟩:=wZ q;cases B;unfold BO at h1;split at h1
  .rename_i Q
   split at h1
   .rename_i cs N
    split at h1
    .rename_i O
     have E:=j x jS;rw[N]at E;exact(Ih A E Q O h1).next
    .cases h1
   .cases h1
  .cases h1
 case indexAddr t x y=>
  obtain⟨e,h1,B⟩:=wZ q;cases B;exact(TB A (j x jS) (j y jS) h1).next
 case index t x y=>
  obtain⟨e,h1,B⟩:=wZ q;cases B;exact(Ii A (j x jS) (j y jS) h1).next
 case lookup t x y ok=>
  obtain⟨e,h1,B⟩:=wZ q;cases B;exact(Lv A (j x jS) (j y jS) h1).next
 case mapUpdate t x y z=>
  obtain⟨e,h1,B⟩:=wZ q;cases B;exact .skip (bu A (j x jS) (j y jS) (j z jS) h1)
 case insert t x y z=>
  obtain⟨e,h1,B⟩:=wZ q;cases B;exact .skip (bu A (j x jS) (j y jS) (j z jS) h1)
 case range t x=>exact(Ij A J (j x jS) q).next
 case next x isS=>exact(FX A (j x jS) q).next
 case extract x i=>
  obtain⟨e,h1,B⟩:=wZ q;cases B;exact(P0 A (j x jS) h1).next
 case call c=>
  split at q
  .rename_i b T
   have hr:wG M ρ (c.args.toList.map (qy fr)) (c.args.map a.eval).toList:=by
    rw[wk];exact gi hf (zT.2 λz K=>zT.1 H z (by simp[Op.operands,Call.operands,T];simpa using K))
   have:=Py (P:=P) (ty:=ty) (cs:=c.args.map fun|.const _=>true|_=>false) A J hr q
   obtain⟨V,v,X,M',Y,k⟩:=this;refine⟨V,v,X,M',Y,?_,k.2⟩;rw[<-k.1];simp only[resolve,T,zq,yL,zZ,invoke];rfl
  .cases q
end
def l7(ρ:Ren)(n:Nat):Prop:=∀i,n<=i->ρ i=none
def Ret(w0:Base)(G:List Nat)(M:Imm)(ρ:Ren)(Q:D->Heap->Prop)(e:Ending)(w':World):Prop:=
 ∃v M' ρ' d h',e=.returned v/\MLe M M'/\RLe ρ ρ'/\Sim w0 G M' ρ' h' w'/\l7 ρ' h'.next/\rel M' ρ' d v/\Q d h'
def rP(P:Program)(g:FuncId):Bool:=
 match P.funcs[g]? with
 |some fn=>fn.body.isSome&&fn.name != "runtime.NumGoroutine"
 |none=>false
noncomputable def cY:String:=String.ofList [Char.ofNat 105,Char.ofNat 110,Char.ofNat 116,Char.ofNat 101,Char.ofNat 114,Char.ofNat 110,Char.ofNat 97,Char.ofNat 108,Char.ofNat 47,Char.ofNat 115,Char.ofNat 116,Char.ofNat 114,Char.ofNat 99,Char.ofNat 111,Char.ofNat 110,Char.ofNat 118,Char.ofNat 46,Char.ofNat 117,Char.ofNat 105,Char.ofNat 110,Char.ofNat 116,Char.ofNat 54,Char.ofNat 52,Char.ofNat 112,Char.ofNat 111,Char.ofNat 119,Char.ofNat 49,Char.ofNat 48]
noncomputable def Xh:String:=String.ofList [Char.ofNat 105,Char.ofNat 110,Char.ofNat 116,Char.ofNat 101,Char.ofNat 114,Char.ofNat 110,Char.ofNat 97,Char.ofNat 108,Char.ofNat 47,Char.ofNat 98,Char.ofNat 121,Char.ofNat 116,Char.ofNat 101,Char.ofNat 97,Char.ofNat 108,Char.ofNat 103,Char.ofNat 46,Char.ofNat 77,Char.ofNat 97,Char.ofNat 120,Char.ofNat 76,Char.ofNat 101,Char.ofNat 110]
def KT(P:Program)(w:World):Prop:=(∀g,P.globalNamed cY=some g->Lib.TabIs P w cY .u64 Lib.pow10Tab)/\∀g,P.globalNamed Xh=some g->∃m,w.cell? ⟨g,0,none⟩ =some (.int .i64 m)
def Tg(P:Program)(w0:Base):Prop:=(∀g,P.globalNamed cY=some g->w0.keep g/\Lib.TabIs P w0.toWorld cY .u64 Lib.pow10Tab)/\∀g,P.globalNamed Xh=some g->w0.keep g/\∃m,w0.toWorld.cell? ⟨g,0,none⟩ =some (.int .i64 m)
variable{P:Program}{w w':World}{n id nid j i sz k:Nat}{x d y z:D}{vx vy v:Value}{vs:List Value}{M M':Imm}{ρ ρ':Ren}{u T t:TypeId}{ob:Obj}{l:Loc}{h' h h0:Heap}{fr:Frm}{α β:Type}{ds args:List D}{o:Oper}{os:List Nat}{K Q:D->Heap->Prop}{bk:Nat->Bool}{m b:Bool}{ev:Operand->D}{tmps va:Array Value}{U S0:Nat->Prop}{f:FuncId}
def Tg.here{w0:Base}(b:Tg P w0)(c:Kept w0 w){g:Nat}(h:P.globalNamed cY=some g):Lib.TabIs P w cY .u64 Lib.pow10Tab:=by
 obtain⟨h1,a⟩:=b.1 g h;unfold Lib.TabIs World.var? at a⊢;rw[h]at a⊢;simp only[sY]at a⊢;rw[c.block g h1];exact a
def Tg.max{w0:Base}(b:Tg P w0)(c:Kept w0 w){g:Nat}(h:P.globalNamed Xh=some g):∃m,w.cell? ⟨g,0,none⟩ =some (.int .i64 m):=by
 obtain⟨h1,m,a⟩:=b.2 g h;refine⟨m,?_⟩;unfold World.cell? at a⊢;rw[c.block g h1];exact a
def Tg.base{w0:Base}(c:Tg P w0)(e:Kept w0 w){K:Nat->Prop}{a:∀b,K b->b<w.heap.size}(d:∀b,w0.keep b->K b):Tg P ⟨w,M,K,a⟩:=by
 refine⟨λg h=> ?_,λg h=> ?_⟩
 .exact⟨d g (c.1 g h).1,c.here e h⟩
 .exact⟨d g (c.2 g h).1,c.max e h⟩
def Tg.start(h:KT P w){a:∀b,b<w.heap.size->b<w.heap.size} :Tg P ⟨w,M,λb=>b<w.heap.size,a⟩:=by
 refine⟨λg c=> ?_,λg c=> ?_⟩
 .have e:=h.1 g c
  refine⟨?_,e⟩;unfold Lib.TabIs World.var? at e
  grind
 .obtain⟨m,d⟩:=h.2 g c
  refine⟨?_,m,d⟩;unfold World.cell? at d
  grind
def zD(P:Program)(g:FuncId)(args:List D)(h:Heap)(Q:D->Heap->Prop):Prop:=
 rP P g=true/\∀w0 G M ρ w va,Tg P w0->Sim w0 G M ρ h w->l7 ρ h.next->wG M ρ args va.toList->Calls P g va w (Ret w0 G M ρ Q)
def wo(P:Program)(id:Nat)(args:List D)(h:Heap)(Q:D->Heap->Prop):Prop:=
 ∀w0 G M ρ w va l,Tg P w0->Sim w0 G M ρ h w->l7 ρ h.next->wG M ρ args va.toList->ρ id=some l->
  ∃f tmps as body,(Instr.yield l.blk va).run P w=.ok (.round l.blk f tmps as body) w/\RoundIn Fence.wide 0 P l.blk f tmps as body w (Ret w0 G M ρ Q)
def ZY(P:Program)(f:D)(args:List D)(h:Heap)(Q:D->Heap->Prop):Prop:=
 match f with
 |.fn g first cap=>match g with
  |.func g=>zD P g (first++args++cap) h Q
  |_=>False
 |.yld id=>wo P id args h Q
 |_=>False
def Ret.mono{w0:Base}{Q a:D->Heap->Prop}{e:Ending}(b:∀d h,Q d h->a d h):Ret w0 os M ρ Q e w'->Ret w0 os M ρ a e w'
 | ⟨v,M',c,d,h',k1,k2,k3,k4,k5,k6,k7⟩=>⟨v,M',c,d,h',k1,k2,k3,k4,k5,k6,b _ _ k7⟩
theorem zD.mono{g:FuncId}{Q a:D->Heap->Prop}(k:zD P g args h Q)(c:∀d h,Q d h->a d h):zD P g args h a:=
 ⟨k.1,λw0 G M ρ w e h0 h1 b h3=>(k.2 w0 G M ρ w e h0 h1 b h3).mono λ_ _=>Ret.mono c⟩
def zD.use{g:FuncId}{v:D}(k:zD P g args h λr h'=>h'=h/\r=v)(a:K v h):zD P g args h K:=by
 refine k.mono ?_;rintro r h' ⟨rfl,rfl⟩;exact a
theorem wo.mono{g:Nat}{Q c:D->Heap->Prop}(k:wo P g args h Q)(j:∀d h,Q d h->c d h):wo P g args h c:=
 λw0 G M ρ w m l h0 h1 e h3 i=>let ⟨f,t,a,b,k1,k2⟩:=k w0 G M ρ w m l h0 h1 e h3 i;⟨f,t,a,b,k1,k2.mono λ_ _=>Ret.mono j⟩
theorem ZY.mono{f:D}{Q a:D->Heap->Prop}(b:∀d h,Q d h->a d h)(k:ZY P f args h Q):ZY P f args h a:=by
 cases f<;>simp only[ZY]at k⊢
 case fn g first cap=>
  grind [zD.mono]
 grind [wo.mono]
def uZ(o:Op):Option (Operand×List Operand):=
 match o with
 |.call c=>match c.callee with
  |.value f=>some (f,c.args.toList)
  |_=>none
 |_=>none
def su(P:Program)(mu:Bool)(nid:Nat)(o:Op)(ev:Operand->D)(h:Heap)(K:D->Heap->Prop):Prop:=
 match uZ o with
 |some (f,args)=>ZY P (ev f) (args.map ev) h K
 |none=>match vop P mu nid o ev h with
  |some (d,h')=>K d h'
  |none=>False
def uS(ops:Array Oper)(fr:Frm)(g:Option (Nat×Bool)):Bool:=
 match g with
 |none=>true
 |some (j,want)=>match(ops[j]?).bind (·.dst)with
  |some t=>match fr t with
   |.bool b=>b==want
   |_=>false
  |none=>false
def pv(fr:Frm)(dst:Option Tmp)(d:D):Frm:=
 match dst with
 |some t=>λi=>if i=t then d else fr i
 |none=>fr
def aS(mu:Tmp->Bool):Option Tmp->Bool
 |some t=>mu t
 |none=>false
def HLe(h h':Heap):Prop:=∀i ob,h.at' i=some ob->h'.at' i=some ob
def Hv(P:Program)(h0:Heap)(o:Op)(ev:Operand->D)(d:D):Prop:=∀h',HLe h0 h'->su P false h'.next o ev h' λd' h''=>d'=d/\h''=h'
def Mv(P:Program)(h0:Heap)(o:Op)(ev:Operand->D)(S:D->Prop):Prop:=∀h',HLe h0 h'->su P false h'.next o ev h' λd' h''=>S d'/\h''=h'
inductive Fl where
 |no|st|sq|qu|al (k:Nat)
def Fl.isSt:Fl->Bool
 |.st=>true
 |.sq=>true
 |_=>false
def Fl.isS1:Fl->Bool
 |.st=>true
 |_=>false
def Fl.isSq:Fl->Bool
 |.sq=>true
 |_=>false
def Fl.isQu:Fl->Bool
 |.qu=>true
 |_=>false
def Fl.isNo:Fl->Bool
 |.no=>true
 |_=>false
def Fl.isAl:Fl->Bool
 |.al _=>true
 |_=>false
def ux(P:Program)(mu:Tmp->Bool)(h0:Heap)(st:Fl)(ops:Array Oper)(o:Oper)(fr:Frm)(h:Heap)(k:D->Heap->Prop):Prop:=
 match uS ops fr o.guard with
 |false=>k si h
 |true=>match st with
  |.st=>∃d,Hv P h0 o.op (qy fr) d/\k d h
  |.sq=>(uZ o.op).isSome=true/\∃S:D->Prop,(∃e,S e)/\Mv P h0 o.op (qy fr) S/\∀d,S d->k d h
  |.no=>su P (aS mu o.dst) h.next o.op (qy fr) h k
  |.qu=>su P (aS mu o.dst) h.next o.op (qy fr) h λd h'=>h'=h/\k d h
  |.al i=>su P (aS mu o.dst) (h0.next+i) o.op (qy fr) h k
def WT(P:Program)(mu:Tmp->Bool)(ops:Array Oper):List Oper->(Frm->Heap->Prop)->Frm->Heap->Prop
 | [],K,fr,h=>K fr h
 |o::rest,K,fr,h=>
  match uS ops fr o.guard with
  |true=>su P (aS mu o.dst) h.next o.op (qy fr) h λd h'=>WT P mu ops rest K (pv fr o.dst d) h'
  |false=>WT P mu ops rest K (pv fr o.dst si) h
def nR(P:Program)(mu:Tmp->Bool)(h0:Heap)(bk:Nat->Bool)(ops:Array Oper):Bool->List (Nat×Fl)->(Frm->Heap->Prop)->Frm->Heap->Prop
 |_,[],K,fr,h=>K fr h
 |fl,(i,st)::rest,K,fr,h=>
  match ops[i]? with
  |none=>False
  |some o=>ux P mu h0 st ops o fr h λd h'=>((fl&& !bk i)=true->HLe h0 h')/\nR P mu h0 bk ops (fl&& !bk i) rest K (pv fr o.dst d) h'
def alN:List (Nat×Fl)->Nat
 | []=>0
 |x::rest=>match x.2 with
  |.al k=>max (k+1) (alN rest)
  |_=>alN rest
def Heap.bump(h:Heap)(m:Nat):Heap:= { next:=h.next+m,at':=h.at' }
def dw(P:Program)(mu:Tmp->Bool)(h0:Heap)(bk:Nat->Bool)(ops:Array Oper)(fl:Bool)(l:List (Nat×Fl))(K:Frm->Heap->Prop)(fr:Frm)(h:Heap):Prop:=
 match alN l with
 |0=>nR P mu h0 bk ops fl l K fr h
 |m+1=>h0.next=h.next/\nR P mu h0 bk ops fl l K fr (h.bump (m+1))
def aL{mu:Tmp->Bool}{ops:Array Oper}{fl:Bool}{l:List (Nat×Fl)}{K:Frm->Heap->Prop}(a:alN l=0):dw P mu h0 bk ops fl l K fr h=nR P mu h0 bk ops fl l K fr h:=by
 unfold dw;rw[a]
def HC{mu:Tmp->Bool}{ops:Array Oper}{fl:Bool}{l:List (Nat×Fl)}{K:Frm->Heap->Prop}{m:Nat}(a:alN l=m+1):dw P mu h0 bk ops fl l K fr h=(h0.next=h.next/\nR P mu h0 bk ops fl l K fr (h.bump (m+1))):=by
 unfold dw;rw[a]
section
variable{P:Program}{mu:Tmp->Bool}{h0:Heap}{ops:Array Oper}
theorem fF{o:Op}{K a:D->Heap->Prop}(b:∀d h,K d h->a d h)(k:su P m nid o ev h K):su P m nid o ev h a:=by grind [su,ZY.mono]
theorem ox{st:Fl}{K a:D->Heap->Prop}(b:∀d h,K d h->a d h)(k:ux P mu h0 st ops o fr h K):ux P mu h0 st ops o fr h a:=by
 unfold ux at k⊢;split at k
 .exact b _ _ k
 .split at k
  .grind
  .obtain⟨k0,S,k1,k2,k3⟩:=k;exact⟨k0,S,k1,k2,λd q=>b _ _ (k3 d q)⟩
  all_goals grind [fF]
def HL{o:Op}{ev d:Operand->D}(f:∀x∈o.operands.toList,ev x=d x):vop P m nid o ev h=vop P m nid o d h:=by
 have a:∀e:Array (Nat×Operand),(∀p∈e.toList,ev p.2=d p.2)->(e.toList.map λp=>(p.1,ev p.2))=(e.toList.map λp=>(p.1,d p.2)):=λe i=>
  wR λp q=>by rw[i p q]
 cases o<;>simp only[Op.operands]at f<;>simp only[vop]
 case build t e=>rw[a e λp i=>f p.2 (by simp;exact⟨p.1,by simpa using i⟩)]
 case buildSlice t n e=>rw[a e λp i=>f p.2 (by simp;exact⟨p.1,by simpa using i⟩)]
 case makeFunc g x y=>
  rw[wR (l:=x.toList) λz j=>f z (by simp;exact .inl (by simpa using j)),wR (l:=y.toList) λz j=>f z (by simp;exact .inr (by simpa using j))]
 case call c=>
  split
  .rename_i b k
   rw[wR (l:=c.args.toList) λz j=>f z (by simp[Call.operands,k];simpa using j)]
  .rfl
 case slice t x lo hi mx=>cases lo<;>cases hi<;>cases mx<;>simp_all
 all_goals(first|rfl|(simp_all;done)|(simp only[z7,wl,jP,forall_eq_or_imp,forall_eq]at f;simp_all;done))
def ZQ{o:Op}{ev b:Operand->D}(d:∀x∈o.operands.toList,ev x=b x):su P m nid o ev h K=su P m nid o b h K:=by
 unfold su;rw[HL d];split
 .rename_i f args a
  unfold uZ at a;split at a
  .rename_i c
   split at a
   .rename_i g e
    cases a;rw[d f (by simp[Op.operands,Call.operands,e]),wR (l:=c.args.toList) λz i=>d z (by simp[Op.operands,Call.operands,e];first|exact .inl (by simpa using i)|exact .inr (by simpa using i))]
   .cases a
  .cases a
 .rfl
def FM{dst:Option Tmp}{x:Operand}(h:∀t,dst=some t->x≠ .tmp t):qy (pv fr dst d) x=qy fr x:=by
 cases dst with
 |none=>rfl
 |some t=>
  cases x with
  |tmp u=>
   grind [qy,pv]
  |_=>rfl
def PR{dst:Option Tmp}(h:∀t,dst=some t->t∉o.looksAt ops):uS ops (pv fr dst d) o.guard=uS ops fr o.guard:=by
 cases dst with
 |none=>rfl
 |some t=>
  unfold uS;cases f:o.guard with
  |none=>rfl
  |some c=>
   obtain⟨g,b⟩:=c;simp only;cases i:(ops[g]?).bind (·.dst)with
   |none=>rfl
   |some u=>
    have a:u≠t:=λe=>h t rfl (by subst e;simp[Oper.looksAt,f,i]);simp[pv,a]
def JZ{dst:Option Tmp}(h:∀t,dst=some t->t∉o.looksAt ops):∀x∈o.op.operands.toList,qy (pv fr dst d) x=qy fr x:=λx c=>
 FM λt b a=>h t b (by
  subst a;exact dF _ (List.mem_filterMap.2 ⟨.tmp t,by simpa using c,rfl⟩))
def Mw{o:Op}{ev a:Operand->D}(b:∀x∈o.operands.toList,ev x=a x):Hv P h0 o ev d=Hv P h0 o a d:=by
 unfold Hv;simp only[ZQ b]
def Qq{o:Op}{ev a:Operand->D}{S:D->Prop}(b:∀x∈o.operands.toList,ev x=a x):Mv P h0 o ev S=Mv P h0 o a S:=by
 unfold Mv;simp only[ZQ b]
theorem mo{st:Fl}{dst:Option Tmp}(a:∀t,dst=some t->t∉o.looksAt ops):ux P mu h0 st ops o (pv fr dst d) h K=ux P mu h0 st ops o fr h K:=by
 unfold ux;rw[PR a];simp only[Mw (JZ a),Qq (JZ a),ZQ (JZ a)]
def IS{x y:Option Tmp}{d e:D}(h:∀t,x=some t->y≠some t):pv (pv fr x d) y e=pv (pv fr y e) x d:=by
 cases x with
 |none=>rfl
 |some t=>
  cases y with
  |none=>rfl
  |some u=>
   have a:t≠u:=λc=>h t rfl (c▸rfl)
   funext i
   simp only[pv];by_cases h1:i=t
   .have b:i≠u:=λe=>a (h1.symm.trans e)
    rw[ip h1,iq b,ip h1]
   .rw[iq h1,iq h1]
def sy(P:Program)(m:Bool)(o:Op):Bool:=
 match o with
 |.move _|.assign _|.pick _ _ _|.build _ _|.nilCheck _|.binOp _ _ _ _ _|.unOp _ _ _|.makeFunc _ _ _|.fieldAddr _ _ _|.field _ _ _|.indexAddr _ _ _|.index _ _ _|.extract _ _|.makeInterface _ _=>true
 |.convert s _ _=> !zLb P s
 |.box _ _|.buildSlice _ _ _|.makeSlice _ _ _=> !m
 |.slice t _ _ _ _=>(Wu P t).isNone
 |.call c=>match c.callee with
  |.builtin .len|.builtin .min|.builtin .max|.builtin .unsafeSliceData=>true
  |_=>false
 |_=>false
def ng(P:Program)(o:Op):Bool:=
 match o with
 |.load _ _|.lookup _ _ _ _|.slice _ _ _ _ _=>true
 |_=>false
variable{P:Program}
def Qc{s d:TypeId}(a:zLb P s=false):∃r:Option D,∀h,aK P s d x h=r:=by
 cases x with
 |ptr id off=>
  refine⟨none,λh=> ?_⟩
  grind [aK,HB,zLb]
 |_=>exact⟨_,λ_=>rfl⟩
def mG{o:Op}(e:sy P m o=true):∃r:Option D,∀nid h,vop P m nid o ev h=r.map (·,h):=by
 have ite:∀(c:Prop)[Decidable c](d:D),∃r:Option D,∀(nid:Nat)(h:Heap),(if c then some (d,h)else none)=r.map (·,h):=λc _ d=>by
  by_cases f:c
  .exact⟨some d,λ_ h=>by rw[ip f];rfl⟩
  .exact⟨none,λ_ h=>by rw[iq f];rfl⟩
 cases o<;>simp only[sy]at e<;>(try (cases e;done))<;>simp only[vop]
 case move x=>exact⟨some (ev x),λ_ _=>rfl⟩
 case assign x=>exact⟨some (ev x),λ_ _=>rfl⟩
 case pick c a b=>
  split
  .exact⟨some _,λ_ _=>rfl⟩
  .exact⟨some _,λ_ _=>rfl⟩
  .exact⟨none,λ_ _=>rfl⟩
 case convert s d x=>
  obtain⟨r,hr⟩:=Qc (P:=P) (s:=s) (d:=d) (x:=ev x) (by simpa using e);exact⟨r,λ_ h=>by rw[hr]⟩
 case box t x=>
  cases m with
  |true=>cases e
  |false=>simpa using ite _ _
 case buildSlice t n ps=>
  cases m with
  |true=>cases e
  |false=>
   unfold yD;split
   .exact⟨none,λ_ _=>rfl⟩
   .split
    .exact⟨none,λ_ _=>rfl⟩
    .dsimp only
     split
     .split
      .exact⟨none,λ_ _=>rfl⟩
      .exact⟨some _,λ_ _=>rfl⟩
     .exact⟨none,λ_ _=>rfl⟩
 case makeSlice t l c=>
  cases m with
  |true=>cases e
  |false=>
   unfold tG;split
   .split
    .simp_all
    .exact⟨none,λ_ _=>rfl⟩
   .exact⟨none,λ_ _=>rfl⟩
 case makeFunc g x y=>
  split
  .exact⟨some _,λ_ _=>rfl⟩
  .exact⟨none,λ_ _=>rfl⟩
 case makeInterface t x=>exact ite _ _
 case slice t x lo hi mx=>
  have j:Wu P t=none:=by simpa using e
  exact⟨_,λ_ _=>by rw[uN,j]⟩
 case call c=>
  split
  .rename_i b i
   rw[i]at e;unfold n7;cases b<;>simp only at e<;>(try (cases e;done))
   .dsimp only
    split
    .split
     .exact⟨_,λ_ _=>rfl⟩
     .exact⟨none,λ_ _=>rfl⟩
    .exact⟨none,λ_ _=>rfl⟩
   .dsimp only
    split
    .exact⟨_,λ_ _=>rfl⟩
    .exact⟨none,λ_ _=>rfl⟩
   .dsimp only
    split
    .exact⟨_,λ_ _=>rfl⟩
    .exact⟨none,λ_ _=>rfl⟩
   .dsimp only
    split
    .split
     .split
      .split
       .exact⟨none,λ_ _=>rfl⟩
       .exact⟨some _,λ_ _=>rfl⟩
       .exact⟨none,λ_ _=>rfl⟩
      .exact⟨some _,λ_ _=>rfl⟩
      .exact⟨none,λ_ _=>rfl⟩
     .exact⟨none,λ_ _=>rfl⟩
    .exact⟨none,λ_ _=>rfl⟩
  .grind
 all_goals exact⟨_,λ_ _=>rfl⟩
def Xu{o:Op}(a:ng P o=true):∃r:Heap->Option D,∀nid h,vop P m nid o ev h=(r h).map (·,h):=by
 cases o<;>simp only[ng]at a<;>(try (cases a;done))<;>simp only[vop]
 .exact⟨λh=>_,λ_ _=>rfl⟩
 .exact⟨λh=>_,λ_ _=>rfl⟩
 .exact⟨λh=>_,λ_ _=>rfl⟩
theorem lI{o:Op}(a:sy P m o=true):uZ o=none:=by
 cases o<;>simp only[sy]at a<;>(try (cases a;done))<;>simp only[uZ]
 grind
def Y5{o:Op}(a:ng P o=true):uZ o=none:=by
 cases o<;>simp only[ng]at a<;>(try (cases a;done))<;>rfl
end
section
variable{P:Program}{mu:Tmp->Bool}{h0:Heap}{ops:Array Oper}
def clo(ops:Array Oper):Nat->Nat->Nat->Bool
 |0,_,_=>false
 |n+1,i,j=>match ops[i]? with
  |none=>false
  |some o=>o.after.any λe=>Region.binds .any e&&(e.on==j||clo ops n e.on j)
def UA:Op->Bool
 |.alloc _=>true
 |_=>false
def Tj(P:Program)(mu:Tmp->Bool)(j i:Fl)(oj oi:Oper):Bool:=
 match j with
 |.al k=>UA oj.op&&(i.isS1||sy P (aS mu oi.dst) oi.op||(match i with
  |.al k'=>UA oi.op&&k !=k'
  |_=>false))
 |_=>false
def Ma(j i:Fl)(oi:Oper):Bool:=j.isSq&&i.isNo&&(uZ oi.op).isNone
def kR(P:Program)(mu:Tmp->Bool)(ops:Array Oper)(j i:Nat×Fl):Bool:=
 match ops[j.1]?,ops[i.1]? with
 |some oj,some oi=>oj.apart ops oi&&(j.2.isS1||sy P (aS mu oj.dst) oj.op||(j.2.isNo&&ng P oj.op&&(i.2.isS1||i.2.isQu||sy P (aS mu oi.dst) oi.op||ng P oi.op))||Tj P mu j.2 i.2 oj oi||Ma j.2 i.2 oi)
 |_,_=>false
def Uu(P:Program)(mu:Tmp->Bool)(ops:Array Oper):List (Nat×Fl)->Bool
 | []=>true
 |j::rest=>rest.all (λi=>clo ops ops.size i.1 j.1||kR P mu ops j i)&&Uu P mu ops rest
def TJ(ops:Array Oper):List (Nat×Fl)->Bool
 | []=>true
 |j::rest=>(match ops[j.1]? with
  |none=>false
  |some o=>o.after.all λe=> !Region.binds .any e||(decide (e.on<ops.size)&&e.on !=j.1&&rest.all λi=>e.on !=i.1))&&TJ ops rest
def Jz(ms:List Nat)(i:Nat)(o:Oper):Nat:=o.after.toList.foldl (λa e=>if Region.binds .any e&&decide (e.on<i)then a |||(ms.getD (i-1-e.on) 0 |||2^e.on)else a) 0
def Z9:List Oper->Nat->List Nat->List Nat
 | [],_,ms=>ms
 |o::rest,i,ms=>Z9 rest (i+1) (Jz ms i o::ms)
def QB(P:Program)(ms:List Nat)(n:Nat)(mu:Tmp->Bool)(ops:Array Oper):List (Nat×Fl)->Bool
 | []=>true
 |j::rest=>rest.all (λi=>(decide (i.1<n)&&Nat.testBit (ms.getD (n-1-i.1) 0) j.1)||kR P mu ops j i)&&QB P ms n mu ops rest
def Hf(P:Program)(mu:Tmp->Bool)(ops:Array Oper)(l:List (Nat×Fl))(ms:List Nat)(i:Nat):Bool:=
 match ops[i]? with
 |none=>false
 |some o=> !sy P (aS mu o.dst) o.op&& !ng P o.op&&l.all λj=>(!j.2.isSt||(j.1 !=i&&(decide (i<ops.size)&&Nat.testBit (ms.getD (ops.size-1-i) 0) j.1)))&&(j.1 !=i|| !j.2.isAl)
def zJO(ops:Array Oper)(l:List (Nat×Fl)):Bool:=
 match alN l with
 |0=>true
 |_+1=>ops.toList.all (λo=>(uZ o.op).isNone)&&l.all λx=>l.all λy=>match x.2 with
  |.al k=>match y.2 with
   |.al k'=>k !=k'||x.1==y.1
   |_=>true
  |_=>true
def JV(P:Program)(mu:Tmp->Bool)(ops:Array Oper)(l:List (Nat×Fl)):Bool:=
 (List.range ops.size).all (λi=>(l.map (·.1)).contains i)&&l.length==ops.size&&decide ((l.map (·.1)).Nodup)&&QB P (Z9 ops.toList 0 []) ops.size mu ops l&&TJ ops l&&zJO ops l
theorem YG:∀{n m i j:Nat},n<=m->clo ops n i j=true->clo ops m i j=true
 |0,_,_,_,_,h=>by simp[clo]at h
 |n+1,0,_,_,c,_=>by omega
 |n+1,m+1,i,j,c,h=>by
  simp only[clo]at h⊢;split at h
  .cases h
  .simp only[mz,zF,yn]at h⊢
   obtain⟨e,b,a,h⟩:=h;exact⟨e,b,a,h.imp id (YG ow)⟩
theorem Ra{c:α->Bool}{f:α->Nat} :∀(l:List α)(a:Nat),Nat.testBit (l.foldl (λa e=>if c e then a |||f e else a) a) j=true->Nat.testBit a j=true\/∃e∈l,c e=true/\Nat.testBit (f e) j=true
 | [],a,h=>.inl h
 |e::l,a,h=>by
  rcases Ra l _ h with h| ⟨b,h1,d⟩
  all_goals grind
theorem ax:∀(rest pre:List Oper)(ms:List Nat),ops.toList=pre++rest->ms.length=pre.length->(∀k,k<pre.length->∀j,Nat.testBit (ms.getD (pre.length-1-k) 0) j=true->clo ops (k+1) k j=true)->
  ∀k,k<ops.size->∀j,Nat.testBit ((Z9 rest pre.length ms).getD (ops.size-1-k) 0) j=true->clo ops (k+1) k j=true
 | [],pre,ms,i,m,g,k,l,j,h=>by grind [clo,Z9]
 |o::rest,pre,ms,i,m,g,k,l,j,h=>by
  have p:ops[pre.length]? =some o:=by rw[<-qA,i];simp
  have a:(pre++ [o]).length=pre.length+1:=jS;refine ax rest (pre++ [o]) (Jz ms pre.length o::ms) (by rw[i];simp) (by rw[a,zx,m]) (λk' b q h'=> ?_) k l j (by rw[a];exact h);rw[a]at b h';by_cases d:k'=pre.length
  .subst d
   rw[show pre.length+1-1-pre.length=0 by omega,List.getD_cons_zero,Jz]at h';rcases Ra (c:=λe=>Region.binds .any e&&decide (e.on<pre.length)) (f:=λe=>ms.getD (pre.length-1-e.on) 0 |||2^e.on) (j:=q) o.after.toList 0 h' with h'| ⟨e,h1,n,h3⟩
   .simp at h'
   .simp only[zF,zO]at n
    simp only[clo,p,mz,zF,yn,qz]
    grind [YG]
  .grind
theorem VM(a:∀k,k<ops.size->∀j,Nat.testBit (os.getD (ops.size-1-k) 0) j=true->clo ops (k+1) k j=true):∀(l:List (Nat×Fl)),QB P os ops.size mu ops l=true->Uu P mu ops l=true
 | [],_=>rfl
 |j::rest,h=>by
  simp only[QB,Uu,zF,zT,yn,zO]at h⊢;refine⟨λi b=> ?_,VM a rest h.2⟩
  grind [YG]
def LQ{l:List (Nat×Fl)}(h:QB P (Z9 ops.toList 0 []) ops.size mu ops l=true):Uu P mu ops l=true:=
 VM (λk a j b=>ax ops.toList [] [] rfl rfl (λk a=>by simp at a) k a j b) l h
theorem TK{st:Fl}{k:D->Heap->Prop}(b:(st.isS1||sy P (aS mu o.dst) o.op)=true)(a:ux P mu h0 st ops o fr h k):
  ∃d,k d h/\∀(h':Heap)(k':D->Heap->Prop),k' d h'->ux P mu h0 st ops o fr h' k':=by
 unfold ux at a⊢;split at a
 .grind
 .cases st with
  |st=>
   grind
  |sq=>
   grind [Fl.isS1,lI]
  |no=>
   unfold su at a⊢;rw[lI b]at a⊢;obtain⟨r,hr⟩:=mG (P:=P) (ev:=qy fr) b;simp only[hr]at a⊢;cases r with
   |none=>exact a.elim
   |some d=>exact⟨d,a,λh' k' c=>c⟩
  |qu=>
   unfold su at a⊢;rw[lI b]at a⊢;obtain⟨r,hr⟩:=mG (P:=P) (ev:=qy fr) b;simp only[hr]at a⊢;cases r with
   |none=>exact a.elim
   |some d=>exact⟨d,a.2,λh' k' c=>⟨rfl,c⟩⟩
  |al i=>
   unfold su at a⊢;rw[lI b]at a⊢;obtain⟨r,hr⟩:=mG (P:=P) (ev:=qy fr) b;simp only[hr]at a⊢;cases r with
   |none=>exact a.elim
   |some d=>exact⟨d,a,λh' k' c=>c⟩
def Hj(i:Nat):Option Obj->Heap->Heap
 |none,h=>h
 |some o,h=>h.new i o
def J6(c:i≠j)(x y:Option Obj)(h:Heap):Hj i x (Hj j y h)=Hj j y (Hj i x h):=by
 cases x with
 |none=>rfl
 |some a=>
  cases y with
  |none=>rfl
  |some b=>
   simp only[Hj,Heap.new,Heap.mk.injEq]
   grind
variable{h0:Heap}
def HLe.newO{x:Option Obj}(g:h0.at' i=none)(d:HLe h0 h):HLe h0 (Hj i x h):=by
 intro k f b;cases x with
 |none=>exact d k f b
 |some a=>
  have c:k≠i:=λe=>by rw[e,g]at b;cases b
  simp only[V.Hj,Heap.new,c,yp];exact d k f b
def HLe.of_newO{x:Option Obj}(f:h0.at' i=none)(d:HLe h0 (V.Hj i x h)):HLe h0 h:=by
 intro k e c;have:=d k e c;cases x with
 |none=>exact this
 |some a=>
  have b:k≠i:=by grind
  simpa only[V.Hj,Heap.new,b,yp]using this
def zHG{k:D->Heap->Prop}(e:UA o.op=true)(a:ux P mu h0 (.al i) ops o fr h k):
  ∃d x,k d (Hj (h0.next+i) x h)/\∀(h':Heap)(k':D->Heap->Prop),k' d (Hj (h0.next+i) x h')->ux P mu h0 (.al i) ops o fr h' k':=by
 unfold ux at a⊢;split at a
 .exact⟨_,none,a,λh' k' b=>by simpa [Hj]using b⟩
 .simp only at a⊢
  unfold su at a⊢;obtain⟨dst,op,ty,pos,after,gd⟩:=o;cases op<;>simp only[UA]at e<;>(try (cases e;done))
  simp only[uZ,vop]at a⊢;cases f:uo P _ with
  |none=>rw[f]at a;exact a.elim
  |some z=>
   rw[f]at a;simp only at a⊢;cases c:z.notTuple with
   |false=>rw[c]at a;exact a.elim
   |true=>
    rw[c]at a;exact⟨_,some (ZB _ z.cells),a,λh' k' b=>by simpa [Hj]using b⟩
def zLl{k k':D->Heap->Prop}(a:∀d,k d h->k' d h)(b:ux P mu h0 .qu ops o fr h k):ux P mu h0 .qu ops o fr h k':=by grind [ux,fF]
def zLm{k k':D->Heap->Prop}(b:∀d,k d h->k' d h)(a:ux P mu h0 .sq ops o fr h k):ux P mu h0 .sq ops o fr h k':=by
 unfold ux at a⊢;split at a
 .exact b _ a
 .exact⟨a.1,a.2.imp λS x=>⟨x.1,x.2.1,λd q=>b _ (x.2.2 d q)⟩⟩
theorem I8{k:D->Heap->Prop}(c:ng P o.op=true)(a:ux P mu h0 .no ops o fr h k):
  ∃d,k d h/\∀(k':D->Heap->Prop),k' d h->ux P mu h0 .no ops o fr h k':=by
 unfold ux at a⊢;split at a
 .grind
 .simp only at a⊢
  unfold su at a⊢;rw[Y5 c]at a⊢;obtain⟨r,hr⟩:=Xu (P:=P) (m:=aS mu o.dst) (ev:=qy fr) c;simp only[hr]at a⊢;cases b:r h with
  |none=>rw[b]at a;exact a.elim
  |some d=>rw[b]at a;exact⟨d,a,λk' e=>e⟩
theorem L8{k:D->Heap->Prop}(c:ng P o.op=true)(a:ux P mu h0 (.al i) ops o fr h k):
  ∃d,k d h/\∀(k':D->Heap->Prop),k' d h->ux P mu h0 (.al i) ops o fr h k':=by
 unfold ux at a⊢;split at a
 .grind
 .simp only at a⊢
  unfold su at a⊢;rw[Y5 c]at a⊢;obtain⟨r,hr⟩:=Xu (P:=P) (m:=aS mu o.dst) (ev:=qy fr) c;simp only[hr]at a⊢;cases b:r h with
  |none=>rw[b]at a;exact a.elim
  |some d=>rw[b]at a;exact⟨d,a,λk' e=>e⟩
def I9{k:D->Heap->Prop} :ux P mu h0 .sq ops o fr h k↔(uS ops fr o.guard=false/\k si h)\/(uS ops fr o.guard=true/\(uZ o.op).isSome=true/\∃S:D->Prop,(∃e,S e)/\Mv P h0 o.op (qy fr) S/\∀d,S d->k d h):=by
 unfold ux;cases uS ops fr o.guard<;>simp
def zHH{k:D->Heap->Prop}(b:uZ o.op=none)(a:ux P mu h0 .no ops o fr h k):
  ∃d h',k d h'/\∀k',ux P mu h0 .no ops o fr h k'↔k' d h':=by
 unfold ux at a⊢;split at a
 all_goals grind [su,vop,aS,qy]
def HA{fl1 fl2:Bool}(A:fl2=true->fl1=true){j i:Nat×Fl}(hz:j.2.isAl=true->∀k,h0.at' (h0.next+k)=none){m f:Oper}(Y:ops[j.1]? =some m)(W:ops[i.1]? =some f)(s:kR P mu ops j i=true){X:Frm->Heap->Prop}
  (p:ux P mu h0 j.2 ops m fr h λe h'=>(fl1=true->HLe h0 h')/\ux P mu h0 i.2 ops f (pv fr m.dst e) h' λd b=>(fl2=true->HLe h0 b)/\X (pv (pv fr m.dst e) f.dst d) b):
  ux P mu h0 i.2 ops f fr h λd h'=>(fl2=true->HLe h0 h')/\ux P mu h0 j.2 ops m (pv fr f.dst d) h' λe b=>(fl2=true->HLe h0 b)/\X (pv (pv fr f.dst d) m.dst e) b:=by
 unfold kR at s;rw[Y,W]at s;simp only[zF]at s;obtain⟨F,s⟩:=s;obtain⟨w,R,q⟩:=Oper.apart_spec F;have E:∀t,m.dst=some t->f.dst≠some t:=R;have go:∀d e b,((fl2=true->HLe h0 b)/\X (pv (pv fr m.dst e) f.dst d) b)->(fl2=true->HLe h0 b)/\X (pv (pv fr f.dst d) m.dst e) b:=λd e b o=>by
  rw[IS E]at o;exact o
 by_cases g:Ma j.2 i.2 f=true
 .unfold Ma at g
  simp only[zF,Option.isNone_iff_eq_none]at g;obtain⟨⟨O,Q⟩,q3⟩:=g;have H:i.2=.no:=by
   cases n:i.2<;>rw[n]at Q<;>first|rfl|cases Q
  have r:j.2=.sq:=by
   cases n:j.2<;>rw[n]at O<;>first|rfl|cases O
  rw[H,r]at p⊢;rcases I9.1 p with⟨G,p⟩ | ⟨G,k0,S,⟨J,z⟩,U,L⟩
  .rw[mo w]at p
   refine ox (λd h' o=>⟨o.1,?_⟩) p.2;rw[mo q];exact I9.2 (.inl ⟨G,go _ _ _ o⟩)
  .have B:=(L J z).2
   rw[mo w]at B;obtain⟨d,h1,T,K⟩:=zHH q3 B;rw[K];refine⟨T.1,?_⟩;rw[mo q];refine I9.2 (.inr ⟨G,k0,S,⟨J,z⟩,U,λe V=> ?_⟩);have C:=(L e V).2;rw[mo w,K]at C;exact go _ _ _ C
 by_cases Z:(j.2.isS1||sy P (aS mu m.dst) m.op)=true
 .grind [TK,mo,ox]
 .by_cases c:Tj P mu j.2 i.2 m f=true
  .obtain⟨jn,jf⟩:=j
   obtain⟨ad,M⟩:=i;unfold Tj at c;cases jf<;>simp only at c<;>(try (cases c;done))
   rename_i kj;simp only[zF]at c;obtain⟨p1,N⟩:=c;have v:=hz rfl;obtain⟨e,x,⟨k1,k2⟩,k3⟩:=zHG p1 p;rw[mo w]at k2;by_cases l:(M.isS1||sy P (aS mu f.dst) f.op)=true
   .obtain⟨d,k4,k5⟩:=TK l k2
    refine k5 h _ ⟨λe=>HLe.of_newO (v _) (k4.1 e),?_⟩;rw[mo q];exact k3 _ _ (go _ _ _ k4)
   .rw[yn]at N
    have D:=N.resolve_left l;cases M<;>simp only at D<;>(try (cases D;done))
    rename_i ki;simp only[zF,fN,ne_eq]at D;obtain⟨d,y,k4,k5⟩:=zHG D.1 k2;rw[J6 (λe=>D.2 ow)]at k4;refine k5 h _ ⟨λe=>HLe.newO (v _) (HLe.of_newO (v _) (k1 (A e))),?_⟩;rw[mo q];exact k3 _ _ (go _ _ _ k4)
  have u:(j.2.isNo&&ng P m.op&&(i.2.isS1||i.2.isQu||sy P (aS mu f.dst) f.op||ng P f.op))=true:=by
   rw[yn,yn,yn]at s;exact((s.resolve_right g).resolve_right c).resolve_left Z
  simp only[zF]at u;obtain⟨⟨a,I⟩,u⟩:=u;have r:j.2=.no:=by
   cases n:j.2 with
   |no=>rfl
   |st=>rw[n]at a;cases a
   |sq=>rw[n]at a;cases a
   |qu=>rw[n]at a;cases a
   |al k=>rw[n]at a;cases a
  rw[r]at p⊢;obtain⟨e,⟨k1,k2⟩,k3⟩:=I8 I p;rw[mo w]at k2;by_cases l:(i.2.isS1||sy P (aS mu f.dst) f.op)=true
  .obtain⟨d,k4,k5⟩:=TK l k2
   refine k5 h _ ⟨λe=>k1 (A e),?_⟩;rw[mo q];exact k3 _ (go _ _ _ k4)
  .cases n:i.2 with
   |st=>rw[n]at l;exact absurd rfl l
   |sq=>
    rw[n]at k2;refine zLm (λd o=>⟨o.1,?_⟩) k2;rw[mo q];exact k3 _ (go _ _ _ o)
   |qu=>
    rw[n]at k2;refine zLl (λd o=>⟨o.1,?_⟩) k2;rw[mo q];exact k3 _ (go _ _ _ o)
   |no=>
    grind [ng,Fl.isS1,Fl.isQu,I8,mo]
   |al ki=>
    grind [Fl.isS1,Fl.isQu,L8,mo]
def Kb{l:List (Nat×Fl)}{y:Nat×Fl}(i:y∈l)(d:Hf P mu ops l os y.1=true)(x:Nat×Fl):kR P mu ops y x=false:=by
 unfold Hf at d;unfold kR;cases e:ops[y.1]? with
 |none=>rfl
 |some o=>
  rw[e]at d;have b:y.2.isSt=false:=by grind
  have c:y.2.isAl=false:=by grind
  cases ops[x.1]? with
  |none=>rfl
  |some f=>
   have g:Tj P mu y.2 x.2 o f=false:=by
    unfold Tj;cases a:y.2<;>simp only;rw[a]at c;cases c
   have h:y.2.isS1=false/\y.2.isSq=false:=by
    cases a:y.2<;>rw[a]at b<;>first|exact⟨rfl,rfl⟩ |cases b
   grind [Ma]
def GA{l:List (Nat×Fl)}{z:Nat×Fl}(a:Hf P mu ops l (Z9 ops.toList 0 []) i=true)(e:z∈l)(c:z.2.isSt=true):clo ops ops.size i z.1=true:=by
 unfold Hf at a;split at a
 .cases a
 .simp only[zF,qI,zT,yn,fN,ne_eq,zO]at a
  rcases(a.2 z e).1 with b|b
  .rw[c]at b;cases b
  .exact YG ow (ax ops.toList [] [] rfl rfl (λk d=>by simp at d) i b.2.1 z.1 b.2.2)
theorem F6{i:Nat×Fl}{m:Oper}{o:List (Nat×Fl)}{K:Frm->Heap->Prop}(n:ops[i.1]? =some m):∀(fl:Bool)(b:List (Nat×Fl))(fr:Frm)(h:Heap),(∀j∈b,kR P mu ops j i=true/\bk j.1=false/\(j.2.isAl=true->∀k,h0.at' (h0.next+k)=none))->
  nR P mu h0 bk ops fl (b++i::o) K fr h->ux P mu h0 i.2 ops m fr h λd h'=>((fl&& !bk i.1)=true->HLe h0 h')/\nR P mu h0 bk ops (fl&& !bk i.1) (b++o) K (pv fr m.dst d) h'
 |fl,[],fr,h,_,a=>by grind [nR]
 |fl,(j,s)::b,fr,h,c,a=>by
  simp only[yG,nR]at a;cases l:ops[j]? with
  |none=>rw[l]at a;exact a.elim
  |some r=>
   rw[l]at a;have g:bk j=false:=(c (j,s) jS).2.1;simp only[g,sj,rh]at a;have h1:=ox (λe h' f=>And.intro f.1 (F6 n fl b (pv fr r.dst e) h' (λk q=>c k (by simp[q])) f.2)) a;have p:=HA (fl2:=fl&& !bk i.1) (λe=>by simp only[zF]at e;exact e.1) (j:=(j,s)) (c (j,s) jS).2.2 l n (c (j,s) jS).1 h1;refine ox (λd h' f=>⟨f.1,?_⟩) p
   grind [nR]
theorem W4{listed:Array Bool}(a:∀k o,ops[k]? =some o->listed.getD k true=true->∀e∈o.after,Region.binds .any e=true->listed.getD e.on false=true):
  ∀(n i j:Nat)(o:Oper),ops[i]? =some o->(∀e∈o.after,Region.binds .any e=true->listed.getD e.on false=true)->clo ops n i j=true->listed.getD j false=true
 |0,_,_,_,_,_,h=>by simp[clo]at h
 |n+1,i,j,o,l,m,h=>by
  simp only[clo,l,mz,zF,yn,qz]at h;obtain⟨e,g,f,h⟩:=h;have h1:=m e (by simpa using g) f;rcases h with h|h
  .rw[<-h];exact h1
  .cases b:ops[e.on]? with
   |none=>
    cases n with
    |zero=>simp[clo]at h
    |succ n=>simp[clo,b]at h
   |some c=>
    have d:listed.getD e.on true=true:=by grind
    exact W4 a n e.on j c b (a e.on c b d) h
end
theorem t9(h:Heap)(i:Nat)(o:Obj):h.next<=(h.new i o).next:=Nat.le_max_left _ _
variable{P:Program}{h0:Heap}
def TO{e:TypeId}{s d:D}{ys:List D}(a:tB P m nid e sz k s ys h=some (d,h')):h.next<=h'.next:=by
 unfold tB at a;split at a
 .grind [t9]
 .split at a
  .split at a
   .cases a
   .grind [t9]
   .split at a
    .split at a
     .cases a
     .cases a;exact t9 (h.del _) _ _
    .cases a
  .cases a
 .split at a
  .split at a
   .split at a
    .cases a;exact t9 (h.del _) _ _
    .cases a
   .split at a
    .cases a
    .split at a
     .cases a;exact t9 (h.del _) _ _
     .cases a
   .cases a
  .cases a
 .cases a
def Zz{s x d:D}(a:qS P m nid t s x h=some (d,h')):h.next<=h'.next:=by
 unfold qS at a;split at a
 .cases a
 .split at a
  .split at a
   .cases a
   .exact TO a
  .cases a
def Qa(s x:D)(h:Heap):(tT s x h).next=h.next:=by
 unfold tT;split
 .split
  .rfl
  .split
   .split<;>rfl
   .rfl
 .rfl
def TP{s x d:D}(a:ny P m nid t s x h=some (d,h')):h.next<=h'.next:=by
 unfold ny at a;split at a
 .rw[<-Qa s x h];exact Zz a
 .exact Zz a
theorem WI{s x d:D}(a:nz P m nid t u s x h=some (d,h')):∃o,h'=h.new nid o:=by
 unfold nz at a;split at a
 .split at a
  all_goals grind
 .cases a
def TQ{s x d:D}(a:nz P m nid t u s x h=some (d,h')):h.next<=h'.next:=by grind [WI,t9]
def aP(a:kU P t x y h=some (d,h')):(∃id,x=.ptr id 0/\h'=h.del id)\/(x=.nilptr/\h'=h):=by
 unfold kU at a;split at a
 .split at a
  .split at a
   .split at a
    all_goals grind [Yc]
   all_goals grind
  .cases a
 .cases a
def fE(a:wv P t x y z h=some h'):h.next<=h'.next:=by
 unfold wv at a;split at a
 .cases a
 .split at a
  .split at a
   .split at a
    .split at a
     .split at a
      .cases a;exact zC _
      .cases a
     .cases a
    .cases a
   .cases a
  .cases a
def Qb(a:dq P t x h=some h'):h'=h\/(∃id sz off n cs,x=.rs id sz off n/\h'=h.set id (.row cs))\/∃id,x=.map id/\h'=h.set id (.map []):=by
 unfold dq at a;split at a
 all_goals grind
def ND(a:dq P t x h=some h'):h.next<=h'.next:=by
 rcases Qb a with rfl| ⟨_,_,_,_,_,_,rfl⟩ | ⟨_,_,rfl⟩ <;>exact zC _
def Mm(a:Wn x b h=some (d,h')):h'=h\/∃id off o,x=.ptr id off/\h'=h.set id o:=by
 unfold Wn at a
 grind
def Qd(a:WO P nid t x h=some (d,h')):∃o,h'=h.new nid o:=by
 unfold WO at a
 grind
def Mn{o:Op}(a:vop P m nid o ev h=some (d,h')):h.next<=h'.next:=by
 by_cases i:sy P m o=true
 .obtain⟨r,hr⟩:=mG (P:=P) (ev:=ev) i
  rw[hr]at a;obtain⟨e,_,f⟩:=wZ a;cases f;exact zC _
 .by_cases g:ng P o=true
  .obtain⟨r,hr⟩:=Xu (P:=P) (m:=m) (ev:=ev) g
   rw[hr]at a;obtain⟨e,_,f⟩:=wZ a;cases f;exact zC _
  .cases o<;>simp only[sy,ng]at i g<;>simp only[vop]at a<;>(try (exact absurd rfl i;done))<;>(try (exact absurd trivial i;done))<;>(try (exact absurd rfl g;done))<;>(try (exact absurd trivial g;done))<;>(try (cases a;done))
   case convert s d x=>
    obtain⟨e,_,f⟩:=wZ a;cases f;exact zC _
   case alloc t=>
    split at a
    .split at a
     .cases a;exact t9 _ _ _
     .cases a
    .cases a
   case box t x=>
    split at a
    .split at a
     .cases a;exact t9 _ _ _
     .cases a;exact zC _
    .cases a
   case buildSlice t n ps=>
    unfold yD at a;split at a
    .cases a
    .split at a
     .cases a
     .dsimp only at a
      split at a
      .split at a
       .cases a
       .split at a
        .cases a;exact t9 _ _ _
        .cases a;exact zC _
      .cases a
   case store t x y=>
    obtain⟨e,h1,f⟩:=wZ a;cases f;unfold yW at h1;split at h1
    .split at h1
     .split at h1
      .cases h1;exact zC _
      .cases h1
     .split at h1
      .cases h1;exact zC _
      .cases h1
     .cases h1
    .cases h1
   case range t x=>obtain⟨o,rfl⟩:=Qd a;exact t9 _ _ _
   case next x b=>rcases Mm a with rfl| ⟨_,_,_,_,rfl⟩ <;>exact zC _
   case makeMap t r=>
    split at a
    .cases a;exact t9 _ _ _
    .cases a
   case makeSlice t x y=>
    unfold tG at a;split at a
    .split at a
     .dsimp only at a
      split at a
      .split at a
       .cases a;exact t9 _ _ _
       .cases a;exact zC _
      .cases a
     .cases a
    .cases a
   case mapUpdate t x y z=>
    obtain⟨e,h1,f⟩:=wZ a;cases f;exact fE h1
   case insert t x y z=>
    obtain⟨e,h1,f⟩:=wZ a;cases f;exact fE h1
   case call c=>
    split at a
    .rename_i b j
     unfold n7 at a;cases b<;>simp only at a<;>(try (cases a;done))
     all_goals(try (rw[j]at i;exact absurd rfl i))
     .split at a
      .split at a
       .split at a
        .exact TP a
        .exact TQ a
       .cases a
      .cases a
     .split at a
      .split at a
       .split at a
        .split at a
         .cases a;exact zC _
         .cases a
        .cases a
       .cases a
      .cases a
     .split at a
      .split at a
       .obtain⟨e,h1,f⟩:=wZ a
        cases f;exact ND h1
       .cases a
      .cases a
     .split at a
      .split at a
       .rcases aP a with⟨_,_,rfl⟩ | ⟨_,rfl⟩ <;>exact zC _
       .cases a
      .cases a
    .cases a
def Fr(ro:Option Nat):Fence:= { fn:=λ_=>True,depth:=none,alive:=false,round:=ro }
structure Ctx(P:Program) where
 w0:Base
 G:List Nat
 M:Imm
 ρ:Ren
 good:Tg P w0
def R2(b:Nat):Deferred:= { target:=.collected b,args:= #[] }
def St{P:Program}(c:Ctx P)(ms:List Nat)(n:Nat)(fr:Frm)(h:Heap)(a:Act)(w:World):Prop:=
 ∃M ρ,MLe c.M M/\RLe c.ρ ρ/\Sim c.w0 (ms++c.G) M ρ h w/\l7 ρ h.next/\VX M ρ fr a.tmps/\a.defers=ms.map R2/\a.tmps.size=n
def Z6(n:Nat):Option Tmp->Bool
 |some t=>decide (t<n)
 |none=>true
section
variable{P:Program}{mu:Tmp->Bool}{c:Ctx P}{ms:List Nat}{n:Nat}{fr:Frm}{h:Heap}{a:Act}{w:World}{Q:Exit->Act->World->Prop}{ro:Option Nat}{ops:Array Oper}
def YX{t:Tmp}(hf:VX M ρ fr tmps)(hr:rel M ρ d v)(b:t<tmps.size):VX M ρ (pv fr (some t) d) (tmps.setIfInBounds t v):=by
 intro i;have a:=hf i;simp only[pv];by_cases h:i=t
 .simp_all [Array.getD]
 .simp only[h,yp]
  have:(tmps.setIfInBounds t v).getD i undef=tmps.getD i undef:=by
   simp only[wQ,Array.getElem?_setIfInBounds_ne (km h)]
  rw[this];exact a
def kO(hM:MLe M M')(hr:RLe ρ ρ')(hf:VX M ρ fr tmps):VX M' ρ' fr tmps:=λi=>u9 hM hr _ _ (hf i)
theorem St.put{dst:Option Tmp}(h:Z6 n dst=true)(h1:MLe c.M M)(e:RLe c.ρ ρ)(h3:Sim c.w0 (ms++c.G) M ρ h' w')(f:l7 ρ h'.next)(h5:VX M ρ fr a.tmps)
  (g:a.defers=ms.map R2) (b:a.tmps.size=n) (hr:rel M ρ d v):St c ms n (pv fr dst d) h' (a.put dst v) w':=by
 refine⟨M,ρ,h1,e,h3,f,?_,?_,?_⟩
 .cases dst with
  |none=>exact h5
  |some t=>exact YX h5 hr (by simpa [Z6,b]using h)
 .cases dst<;>exact g
 .cases dst with
  |none=>exact b
  |some t=>simpa [Act.put]using b
def Pp(hr:rel M ρ d (.bool b)):d=.bool b:=by
 cases d<;>simp only[rel]at hr
 case bool=>cases hr;rfl
 all_goals first
  |(cases hr;done)
  |(obtain⟨hr,_⟩:=hr;cases hr;done)
  |(obtain⟨_,hr,_⟩:=hr;cases hr;done)
  |(obtain⟨_,_,hr⟩:=hr;cases hr;done)
  |(obtain⟨_,_,hr,_⟩:=hr;cases hr;done)
  |(obtain⟨_,_,_,hr,_⟩:=hr;cases hr;done)
  |(obtain⟨_,_,_,_,_,⟨_,hr,_⟩,_⟩:=hr;cases hr;done)
  |(obtain⟨_,_,_,_,_,hr,_⟩:=hr;cases hr;done)
  |(obtain⟨_,_,_,_,_,_,hr,_⟩:=hr;cases hr;done)
theorem LZ(hf:VX M ρ fr a.tmps):Region.wanted o (yielded ops a.tmps)=uS ops fr o.guard:=by
 unfold Region.wanted uS;cases o.guard with
 |none=>rfl
 |some h=>
  obtain⟨g,f⟩:=h;simp only;unfold yielded;cases i:(ops[g]?).bind (·.dst)with
  |none=>rfl
  |some t=>
   simp only[sY];have c:=hf t;rw[wQ]at c;cases e:a.tmps[t]? with
   |none=>
    rw[e]at c;cases d:fr t with
    |bool b=>rw[d]at c;cases c
    |_=>rfl
   |some v=>
    rw[e]at c;cases v with
    |bool b=>rw[Pp c];simp[eq_comm]
    |_=>
     cases d:fr t with
     |bool b=>rw[d]at c;cases c
     |_=>rfl
def RW{g:FuncId}(a:rP P g=true):∃fn,P.funcs[g]? =some fn/\fn.body.isSome=true/\(fn.name== "runtime.NumGoroutine")=false:=by grind [rP]
def Zq{g:FuncId}(b:rP P g=true)(args:Array Value)(w:World):(callFunc g args).run P w=.ok (.enter g args) w:=by
 obtain⟨fn,h1,d,h3⟩:=RW b;have c:(program).run P w=.ok P w:=rfl;have a:fn.body.isNone=false:=by simp_all
 simp only[callFunc,zq,c,zZ,h1,h3,a,zg,yp,yL]
theorem St.op{k:D->Heap->Prop}{C:Act->World->Prop}(hs:St c ms n fr h a w)(q:Pe o.op=true)(U:Z6 n o.dst=true)(b:su P m h.next o.op (qy fr) h k)
  (I:∀d h' O p,St c ms n (pv fr o.dst d) h' O p->k d h'->C O p):o.wpIn (Fr ro) 0 P a w C Q:=by
 obtain⟨M,ρ,h1,R,h3,B,h5,S,T⟩:=hs;refine⟨λ_ _=>trivial,?_⟩;have J:∀c,o.op≠ .defer c:=by grind [su,uZ,vop]
 rw[Oper.semAt_eq _ _ _ J];unfold su at b;split at b
 .rename_i f args z
  unfold uZ at z;split at z
  .rename_i y x
   split at z
   .rename_i f' u
    cases z;have r:FL f=true/\y.args.toList.all FL=true:=by
     unfold Pe at q;rw[x]at q;simp only[Op.operands,Call.operands,u]at q
     grind
    have K:=fy h5 r.1;have Y:wG M ρ (y.args.toList.map (qy fr)) (y.args.map a.eval).toList:=by rw[wk];exact gi h5 r.2
    have post:∀e p,Ret c.w0 (ms++c.G) M ρ k e p->∃v,e=.returned v/\C (a.put o.dst v) p:=by
     rintro e p ⟨v,M',ρ',d,h',rfl,W,X,q3,q4,q5,q6⟩;exact⟨v,rfl,I d h' _ _ (St.put U (h1.trans W) (R.trans X) q3 q4 (kO W X h5) S T q5) q6⟩
    cases H:qy fr f<;>rw[H]at b K<;>simp only[ZY]at b
    .rename_i g first cap
     cases g<;>simp only at b;rename_i g;obtain⟨_,Z,vc,E,L,N⟩:=K;have j:(execOp a.eval o).run P w=.ok (.enter g (Z++y.args.map a.eval++vc)) w:=by
      simp only[execOp,x,resolve,u,E,Deferred.ofValue,zq,yL,zZ,invoke,Zq b.1]
     rw[j];refine⟨λe=>(by cases e),?_⟩;have t:=b.2 c.w0 (ms++c.G) M ρ w (Z++y.args.map a.eval++vc) c.good h3 B (by simp only[mH];exact uk (uk L Y) N);refine CallsIn.mono (F:=Fr ro) (n:=0-1) (gL.2 t) λe p he=> ?_
     grind
    .rename_i id
     obtain⟨l,hl,E⟩:=K;obtain⟨g,tmps,as,body,y1,y2⟩:=b c.w0 (ms++c.G) M ρ w (y.args.map a.eval) l c.good h3 B Y hl;have j:(execOp a.eval o).run P w=.ok (.round l.blk g tmps as body) w:=by
      simp only[execOp,x,resolve,u,E,Deferred.ofValue,zq,yL,zZ,invoke];simpa using y1
     rw[j];refine⟨λe=>(by cases e),?_⟩;refine RoundIn.mono (F:=Fr ro) (n:=0-1) y2 λe p he=> ?_
     grind
   .cases z
  .cases z
 .split at b
  .rename_i d h' s
   obtain⟨nx,v,p,M',ρ',k1,k2,k3,k4,k5,k6,k7⟩:=BH h3 (B h.next (zC _)) h5 q s;have A:St c ms n (pv fr o.dst d) h' (a.put o.dst v) p:=by
    refine St.put U (h1.trans k3) (R.trans k4) k6 (λi V=> ?_) (kO k3 k4 h5) S T k7;rw[k5 i (.inl V)];exact B i (zb (Mn s) V)
   rw[k1];rcases k2 with rfl| ⟨rfl,rfl⟩
   .exact I d h' _ _ A b
   .exact I d h' _ _ A b
  .exact b.elim
end
def Wf(n:Nat)(ops:Array Oper):Bool:=ops.toList.all λo=>Pe o.op&&Z6 n o.dst
section
variable{P:Program}{mu:Tmp->Bool}{c:Ctx P}{ms:List Nat}{n:Nat}{fr:Frm}{h h0:Heap}{a:Act}{w:World}{Q:Exit->Act->World->Prop}{ro:Option Nat}{ops:Array Oper}{fl:Bool}{K:Frm->Heap->Prop}
def Xv(a:Wf n ops=true)(b:ops[i]? =some o):Pe o.op=true/\Z6 n o.dst=true:=by grind [Wf,Pe,Z6]
def St.skip{dst:Option Tmp}(b:Z6 n dst=true)(d:St c ms n fr h a w):St c ms n (pv fr dst si) h (a.put dst undef) w:=by grind [St.put,gj,Z6,St,pv,si]
def St.wanted(b:St c ms n fr h a w):Region.wanted o (yielded ops a.tmps)=uS ops fr o.guard:=by grind [LZ,St,uS]
theorem Vy(b : Wf n ops = true)(f : ∀ fr h a w, St c ms n fr h a w -> K fr h -> Q .normal a w) : ∀(rest pre : List Oper), ops.toList = pre ++ rest -> ∀ fr h a w, St c ms n fr h a w -> WT P mu ops rest K fr h ->
      wpOpsIn (Fr ro) 0 P ops Q (List.range' pre.length rest.length) a w
  | [], pre, _, fr, h, a, w, e, d => by
    exact f _ _ _ _ e d
  | o :: rest, pre, g, fr, h, a, w, e, d => by
    have i : ops[pre.length]? = some o := by rw [<- qA, g]; simp
    obtain ⟨k1, k2⟩ := Xv b i;have j := Vy b f rest (pre ++ [o]) (by simp [g]);rw [zQ, tX]at j;rw [zx, List.range'_succ];simp only [wpOpsIn, i, e.wanted];simp only [WT]at d;cases hg : uS ops fr o.guard with
    | true =>
      grind [St.op]
    | false =>
      rw [hg]at d;exact ⟨λ_ _ => trivial, j _ _ _ _ (e.skip k2) d⟩
def StU{P:Program}(c:Ctx P)(U:Nat->Prop)(ms:List Nat)(n:Nat)(fr:Frm)(h:Heap)(a:Act)(w:World):Prop:=
 ∃M ρ,MLe c.M M/\RLe c.ρ ρ/\Sim c.w0 (ms++c.G) M ρ h w/\l7 ρ h.next/\VX M ρ fr a.tmps/\a.defers=ms.map R2/\a.tmps.size=n/\∀i,U i->i<h.next/\ρ i=none
def StU.st(b:StU c U ms n fr h a w):St c ms n fr h a w:=by grind [StU,St]
def St.stu(b:∀i,¬U i)(d:St c ms n fr h a w):StU c U ms n fr h a w:=by grind [St,StU]
def StU.less(b:∀i,S0 i->U i)(d:StU c U ms n fr h a w):StU c S0 ms n fr h a w:=by grind [StU]
def StU.skip{dst:Option Tmp}(i:Z6 n dst=true)(j:StU c U ms n fr h a w):StU c U ms n (pv fr dst si) h (a.put dst undef) w:=by
 obtain⟨M,ρ,h1,d,h3,e,h5,f,b,g⟩:=j;refine⟨M,ρ,h1,d,h3,e,?_,?_,?_,g⟩
 .cases dst with
  |none=>exact h5
  |some t=>exact YX h5 gj (by simpa [Z6,b]using i)
 .cases dst<;>exact f
 .cases dst with
  |none=>exact b
  |some t=>simpa [Act.put]using b
def StU.op{k:D->Heap->Prop}{u:Act->World->Prop}(H:StU c U ms n fr h a w)(s:Pe o.op=true)(A:Z6 n o.dst=true)(F:uZ o.op=none)(f:nid=h.next\/U nid)(e:su P m nid o.op (qy fr) h k)
  (B:∀d h' x p,StU c (λi=>U i/\i≠nid) ms n (pv fr o.dst d) h' x p->k d h'->u x p):o.wpIn (Fr ro) 0 P a w u Q:=by
 obtain⟨M,ρ,h1,C,h3,y,h5,E,q,z⟩:=H;refine⟨λ_ _=>trivial,?_⟩;have r:∀c,o.op≠ .defer c:=by grind [su,uZ,vop]
 rw[Oper.semAt_eq _ _ _ r];unfold su at e;rw[F]at e;simp only at e;split at e
 .rename_i d h' b
  have J:ρ nid=none:=by
   rcases f with rfl|I
   .exact y _ (zC _)
   .exact(z _ I).2
  obtain⟨L,v,p,M',K,k1,k2,k3,k4,k5,k6,k7⟩:=BH h3 J h5 s b;have g:=Mn b;have j:StU c (λi=>U i/\i≠nid) ms n (pv fr o.dst d) h' (a.put o.dst v) p:=by
   refine⟨M',K,h1.trans k3,C.trans k4,k6,λi l=> ?_,?_,?_,?_,λi l=>⟨zl (z i l.1).1 g,?_⟩⟩
   .rw[k5 i (.inl l)]
    exact y i (zb g l)
   .cases G:o.dst with
    |none=>exact kO k3 k4 h5
    |some t=>exact YX (kO k3 k4 h5) k7 (by rw[G]at A;simpa [Z6,q]using A)
   .cases o.dst<;>exact E
   .cases o.dst with
    |none=>exact q
    |some t=>simpa [Act.put]using q
   .grind
  rw[k1];rcases k2 with rfl| ⟨rfl,rfl⟩
  .exact B d h' _ _ j e
  .exact B d h' _ _ j e
 .exact e.elim
def zAA(b:Nat)(l:List (Nat×Fl))(i:Nat):Prop:=∃x∈l,∃k,x.2=.al k/\i=b+k
def StU.ux{st:Fl}{k:D->Heap->Prop}{x:Act->World->Prop}(r:StU c U ms n fr h a w)(b:ops[i]? =some o)(u:Wf n ops=true)(C:st.isSt=true->HLe h0 h)(s:uZ o.op=none)(v:∀k,st=.al k->U (h0.next+k))(g:ux P mu h0 st ops o fr h k)
  (t:∀d h' m p,StU c (λi=>U i/\∀k,st=.al k->i≠h0.next+k) ms n (pv fr o.dst d) h' m p->k d h'->x m p):wpOpIn (Fr ro) 0 P ops Q i x a w:=by
 obtain⟨k1,k2⟩:=Xv u b;have q:∀i,U i->i<h.next:=λi b=>let ⟨_,_,_,_,_,_,_,_,_,h8⟩:=r;(h8 i b).1
 unfold wpOpIn;simp only[b,r.st.wanted];unfold V.ux at g;cases y:uS ops fr o.guard with
 |false=>
  rw[y]at g;simp only[zg,yp];exact⟨λ_ _=>trivial,t _ _ _ _ ((r.skip k2).less λi b=>b.1) g⟩
 |true=>
  rw[y]at g;simp only[qF];cases st with
  |no=>exact r.op k1 k2 s (.inl rfl) g λd h' m p f l=>t d h' m p (f.less λi b=>⟨b.1,λe=>ZW (q i b.1) e⟩) l
  |qu=>
   refine r.op k1 k2 s (.inl rfl) g λz h' m p f l=> ?_;obtain⟨rfl,l⟩:=l;exact t _ _ _ _ (f.less λi b=>⟨b.1,λe=>ZW (q i b.1) e⟩) l
  |st=>
   obtain⟨d,A,B⟩:=g;refine r.op k1 k2 s (.inl rfl) (A h (C rfl)) λz h' m p f l=> ?_;obtain⟨rfl,rfl⟩:=l;exact t _ _ _ _ (f.less λi b=>⟨b.1,λe=>ZW (q i b.1) e⟩) B
  |sq=>rw[s]at g;cases g.1
  |al j=>
   exact r.op k1 k2 s (.inr (v j rfl)) g λd h' m p f l=>t d h' m p (f.less λi b=>⟨b.1,b.2 j rfl⟩) l
def St.ux{st:Fl}{k:D->Heap->Prop}{u:Act->World->Prop}(g:St c ms n fr h a w)(t:st.isAl=false)(y:ops[i]? =some o)(p:Wf n ops=true)(z:st.isSt=true->HLe h0 h)(f:ux P mu h0 st ops o fr h k)
  (m:∀d h' l q,St c ms n (pv fr o.dst d) h' l q->k d h'->u l q):wpOpIn (Fr ro) 0 P ops Q i u a w:=by
 obtain⟨k1,k2⟩:=Xv p y;unfold wpOpIn;simp only[y,g.wanted];unfold V.ux at f;cases x:uS ops fr o.guard with
 |false=>
  rw[x]at f;simp only[zg,yp];exact⟨λ_ _=>trivial,m _ _ _ _ (g.skip k2) f⟩
 |true=>
  rw[x]at f;simp only[qF];cases st with
  |no=>exact St.op g k1 k2 f m
  |qu=>
   refine St.op g k1 k2 f λv h' l q b e=> ?_;obtain⟨rfl,e⟩:=e;exact m _ _ _ _ b e
  |st=>
   obtain⟨d,r,s⟩:=f;refine St.op g k1 k2 (r h (z rfl)) λv h' l q b e=> ?_;obtain⟨rfl,rfl⟩:=e;exact m _ _ _ _ b s
  |sq=>
   obtain⟨_,S,_,r,s⟩:=f;refine St.op g k1 k2 (r h (z rfl)) λv h' l q b e=> ?_;obtain⟨e,rfl⟩:=e;exact m _ _ _ _ b (s _ e)
  |al j=>cases t
theorem QD{i:Nat×Fl}{c:List (Nat×Fl)} :∀{a:List (Nat×Fl)},Uu P mu ops (a++i::c)=true->Uu P mu ops (a++c)=true/\∀j∈a,(clo ops ops.size i.1 j.1||kR P mu ops j i)=true
 | [],b=>by grind [Uu]
 |j::a,b=>by
  simp only[yG,Uu,zF,uD,uU]at b⊢;obtain⟨⟨h1,g,h3⟩,d⟩:=b;obtain⟨e,f⟩:=QD d
  grind
theorem QX{i:Nat×Fl}{c:List (Nat×Fl)} :∀{b:List (Nat×Fl)},TJ ops (b++i::c)=true->TJ ops (b++c)=true
 | [],a=>by grind [TJ]
 |j::b,a=>by
  simp only[yG,TJ,zF]at a⊢;refine⟨?_,QX a.2⟩;have h1:=a.1;cases d:ops[j.1]? with
  |none=>rw[d]at h1;cases h1
  |some o=>
   grind
def zBI(h0:Heap)(ops:Array Oper)(l:List (Nat×Fl)):Prop:=
 (∀x∈l,x.2.isAl=false)\/((∀(i:Nat)(o:Oper),ops[i]? =some o->uZ o.op=none)/\(∀x∈l,∀y∈l,∀k,x.2=.al k->y.2=.al k->x.1=y.1)/\∀k,h0.at' (h0.next+k)=none)
def zBI.less{l a:List (Nat×Fl)}(b:∀x∈a,x∈l):zBI h0 ops l->zBI h0 ops a
 :=by grind [zBI]
theorem NF{bk : Nat -> Bool}(L : Wf n ops = true)(hK : ∀ fr h a w, St c ms n fr h a w -> K fr h -> Q .normal a w) : ∀(fuel : Nat)(fl : Bool)(l : List (Nat × Fl))(listed : Array Bool)(fr : Frm)(h : Heap)(a : Act)(w : World),
      l.length <= fuel -> (l.map (·.1)).Nodup -> (∀ i, i < ops.size -> (listed.getD i true = false ↔ i ∈ l.map (·.1))) -> listed.size = ops.size ->
      (∀ k o, ops[k]? = some o -> listed.getD k true = true -> ∀ e ∈ o.after, Region.binds .any e = true -> listed.getD e.on false = true) ->
      Uu P mu ops l = true -> TJ ops l = true -> (fl = true -> HLe h0 h) -> (∀ x ∈ l, x.2.isSt = true -> fl = true) -> (∀ y ∈ l, bk y.1 = true -> ∀ x, kR P mu ops y x = false) -> (∀ x ∈ l, bk x.1 = true -> ∀ z ∈ l, z.2.isSt = true -> clo ops ops.size x.1 z.1 = true) -> zBI h0 ops l -> StU c (zAA h0.next l) ms n fr h a w -> nR P mu h0 bk ops fl l K fr h ->
      wpAnyIn (Fr ro) 0 P .any ops Q fuel listed a w := by
  have t : ∀(l : List (Nat × Fl))(listed : Array Bool)(j : Nat × Fl)(l' : List (Nat × Fl)), l = j :: l' -> (∀ i, i < ops.size -> (listed.getD i true = false ↔ i ∈ l.map (·.1))) -> listed.size = ops.size -> TJ ops l = true -> j.1 ∈ Region.ready .any ops listed := by
    intro l listed j l' hl b u p;subst hl;simp only [TJ, zF]at p;have h1 := p.1;cases H : ops[j.1]? with
    | none => rw [H]at h1; cases h1
    | some o =>
      rw [H]at h1;have C : j.1 < ops.size := (yF.1 H).1;refine gX.2 ⟨(b j.1 C).2 jS, o, H, λe he Y => ?_⟩;simp only [Array.all_eq_true', yn, qI, zF, zO]at h1
      grind
  intro fuel
  induction fuel with
  | zero =>
    intro fl l listed fr h a w I V b u s J p U S O ad f hs hv
    have : l = [] := ye.1 ow;subst this;refine ⟨?_, hK _ _ _ _ hs.st hv⟩;cases hr : Region.ready .any ops listed with
    | nil => rfl
    | cons i rs =>
      have T : i ∈ Region.ready .any ops listed := by rw [hr]; simp
      obtain ⟨h1, o, G, _⟩ := gX.1 T;have := (b i (yF.1 G).1).1 h1;simp at this
  | succ fuel ih =>
    intro fl l listed fr h a w I V b u s J p U S O ad f hs hv;refine ⟨λhr => ?_, λi T => ?_⟩
    · cases l with
      | nil => exact hK _ _ _ _ hs.st hv
      | cons j l' =>
        have := t _ listed j l' rfl b u p;rw [hr]at this; cases this
    · obtain ⟨h1, o, G, h3⟩ := gX.1 T
      have C := (yF.1 G).1;have hm := (b i C).1 h1;obtain ⟨x, hx, rfl⟩ := zS.1 hm;obtain ⟨v, F, rfl⟩ := List.append_of_mem hx;obtain ⟨o1, o2⟩ := QD J;have aj : ∀ j : Nat × Fl, j ∈ v ++ x :: F -> clo ops ops.size x.1 j.1 = true -> False := λj H g => by
        have hl := W4 s ops.size x.1 j.1 o G h3 g;have A : j.1 < listed.size := by
          by_cases Y : j.1 < listed.size
          · exact Y
          · simp [Y]at hl
        have hf := (b j.1 ow).2 (zS.2 ⟨j, H, rfl⟩);simp [A]at hl hf;rw [hl]at hf; cases hf
      have a1 : ∀ j ∈ v, kR P mu ops j x = true /\ bk j.1 = false /\ (j.2.isAl = true -> ∀ k, h0.at' (h0.next + k) = none) := λj H => by
        have A : j ∈ v ++ x :: F := by simp [H]
        rcases yn _ _ ▸ o2 j H with g | g
        · exact (aj j A g).elim
        · refine ⟨g, ?_⟩
          refine ⟨?_, λha => ?_⟩
          · cases R : bk j.1 with
            | false => rfl
            | true => rw [O j A R x]at g; cases g
          · rcases f with f | f
            · rw [f j A]at ha; cases ha
            · exact f.2.2
      have Y := F6 G fl v fr h a1 hv;have D : ((v ++ F).map (·.1)).Nodup /\ x.1 ∉ (v ++ F).map (·.1) := by
        simp only [wD, qe]at V ⊢;have := (List.perm_middle (a := x.1) (l₁ := v.map (·.1)) (l₂ := F.map (·.1))).nodup_iff.1 V;exact ⟨(px.1 this).2, (px.1 this).1⟩
      have m : ∀ y, y ∈ v ++ F -> y ∈ v ++ x :: F := λy r => by simp at r ⊢; rcases r with r | r <;> simp [r]
      have pick : ∀{KC : Act -> World -> Prop}, (∀ d h' N X, StU c (zAA h0.next (v ++ F)) ms n (pv fr o.dst d) h' N X -> (((fl && !bk x.1) = true -> HLe h0 h') /\ nR P mu h0 bk ops (fl && !bk x.1) (v ++ F) K (pv fr o.dst d) h') -> KC N X) -> wpOpIn (Fr ro) 0 P ops Q x.1 KC a w := λB => by
        rcases f with f | ⟨m1, m2, m3⟩
        · exact St.ux hs.st (f x hx) G L (λe => U (S x hx e)) Y λd h' N X E Z => B d h' N X (E.stu λi T => by
            obtain ⟨y, r, k, B, _⟩ := T;have := f y (m y r);rw [B]at this; cases this) Z
        · exact StU.ux hs G L (λe => U (S x hx e)) (m1 _ _ G) (λk B => ⟨x, hx, k, B, rfl⟩) Y λd h' N X E Z => B d h' N X (E.less λi T => by
            obtain ⟨y, r, k, B, rfl⟩ := T;refine ⟨⟨y, m y r, k, B, rfl⟩, λk' ak e => ?_⟩;have au : k = k' := by omega
            subst au;exact D.2 (zS.2 ⟨y, r, m2 y (m y r) x hx k B ak⟩)) Z
      refine pick λd h' N X E Z => ?_;refine ih _ (v ++ F) _ _ _ _ _ (by simp at I ⊢; omega) D.1 (λk B => ?_) (by simpa using u) (λk ok W ai e he ag => ?_) o1 (QX p) Z.1 (λy r a2 => ?_) (λy r => O y (m y r)) (λy r R z hz => ad y (m y r) R z (m z hz)) (f.less m) E Z.2
      · by_cases hkx : k = x.1
        · subst hkx
          have : (listed.setIfInBounds x.1 true).getD x.1 true = true := by simp [u, C]
          rw [this];constructor
          · intro e; cases e
          · intro e; exact absurd e D.2
        · rw [XO true (km hkx), b k B]
          simp only [wD, qe, qB, z7];constructor
          · rintro (g | g | g)
            · exact .inl g
            · exact absurd g hkx
            · exact .inr g
          · rintro (g | g)
            · exact .inl g
            · exact .inr (.inr g)
      · have M : ∀ q, listed.getD q false = true -> (listed.setIfInBounds x.1 true).getD q false = true := λq a0 => by
          by_cases hqx : q = x.1
          · subst hqx; simp [u, C]
          · rw [XO false (km hqx)]; exact a0
        by_cases hkx : k = x.1
        · subst hkx
          rw [G]at W; cases W;exact M _ (h3 e he ag)
        · rw [XO true (km hkx)]at ai
          exact M _ (s k ok W ai e he ag)
      · grind
end
structure Cfg where
 mu:Tmp->Bool
 dr:Nat->List (Nat×Fl)
def lr(K:Frm->Heap->Prop)(Q:Exit->Frm->Heap->Prop)(e:Exit)(fr:Frm)(h:Heap):Prop:=
 match e with
 |.normal=>K fr h
 |e=>Q e fr h
def jk(id:Nat)(Q:Exit->Frm->Heap->Prop)(e:Exit)(fr:Frm)(h:Heap):Prop:=
 match e with
 |.exit i=>if i=id then Q .normal fr h else Q (.exit i) fr h
 |e=>Q e fr h
def zG1(Q:Exit->Frm->Heap->Prop)(e:Exit)(fr:Frm)(h:Heap):Prop:=
 match e with
 |.goto _=>False
 |e=>Q e fr h
def Wd(p:Option Code)(Q:Exit->Frm->Heap->Prop)(fr:Frm)(h:Heap):Prop:=
 match p with
 |none=>Q .normal fr h
 |some c=>match c with
  |.ret=>Q .ret fr h
  |.exit i=>Q (.exit i) fr h
  |_=>False
def VFn(P:Program)(f:D)(args:List D)(h:Heap)(Q:D->Heap->Prop):Prop:=
 match f with
 |.fn g first cap=>match g with
  |.func g=>zD P g (first++args++cap) h Q
  |_=>False
 |_=>False
def vwp(P:Program)(g:Cfg)(n:Nat)(ro:Option Nat):Code->(Exit->Frm->Heap->Prop)->Frm->Heap->Prop
  |.skip,Q,fr,h=>Q .normal fr h
  |.region id ops draw,Q,fr,h=>match draw with
    |false=>WT P g.mu ops ops.toList (Q .normal) fr h
    |true=>∃h0,HLe h0 h/\dw P g.mu h0 (Hf P g.mu ops (g.dr id) (Z9 ops.toList 0 [])) ops ((g.dr id).any (·.2.isSt)) (g.dr id) (Q .normal) fr h
  |.seq a b,Q,fr,h=>vwp P g n ro a (lr (vwp P g n ro b Q) Q) fr h
  |.cond c a b,Q,fr,h=>match qy fr c with
    |.bool b'=>match b' with
      |true=>vwp P g n ro a Q fr h
      |false=>vwp P g n ro b Q fr h
    |_=>False
  |.block id c,Q,fr,h=>vwp P g n ro c (jk id Q) fr h
  |.exit id,Q,fr,h=>Q (.exit id) fr h
  |.ret,Q,fr,h=>Q .ret fr h
  |.label _,Q,fr,h=>Q .normal fr h
  |.scope c,Q,fr,h=>vwp P g n ro c (zG1 Q) fr h
  |.loop c,Q,fr,h=>∃I:Nat->Frm->Heap->Prop,(∃k,I k fr h)/\∀k fr h,I k fr h->vwp P g n ro c (lr (λfr h=>∃m,m<k/\I m fr h) Q) fr h
  |.rangeFunc f ps as body,Q,fr,h=>
    (match ro with
     |none=>True
     |some id=>∃r,h.at' id=some (.loop r))/\
    VFn P (qy fr f) [.yld h.next] (h.new h.next (.loop ⟨.ready,none,fr,ps,as,body,n⟩)) λ_ h'=>
      ∃r,h'.at' h.next=some (.loop r)/\r.st≠ .busy/\Wd r.pending Q fr (h'.del h.next)
  |_,_,_,_=>False
def tO(P:Program)(g:Cfg)(n:Nat):Code->Bool
 |.skip=>true
 |.region id ops draw=>Wf n ops&&(!draw||JV P g.mu ops (g.dr id))
 |.seq a b=>tO P g n a&&tO P g n b
 |.cond c a b=>FL c&&tO P g n a&&tO P g n b
 |.block _ c=>tO P g n c
 |.exit _=>true
 |.ret=>true
 |.loop c=>tO P g n c
 |.rangeFunc f ps as body=>FL f&&ps.toList.all (λt=>decide (t<n))&&tO P g n as&&tO P g n body
 |.refuse .. =>true
 |.label _=>true
 |.scope c=>tO P g n c
 |_=>false
def StM{P:Program}(c:Ctx P)(ms:List Nat)(n:Nat)(fr:Frm)(h:Heap)(a:Act)(w:World):Prop:=St c ms n fr h a w/\ms.Nodup/\∀b∈ms,b∉c.G
def zHs{P:Program}(c:Ctx P):Option Nat->Option Nat->Prop
 |none,none=>True
 |some id,some b=>∃l,c.ρ id=some l/\l.blk=b
 |_,_=>False
def KU{P:Program}(c:Ctx P)(n:Nat)(Q:Exit->Frm->Heap->Prop)(e:Exit)(a:Act)(w:World):Prop:=∃ms fr h,StM c ms n fr h a w/\Q e fr h
section
variable{P:Program}{g:Cfg}{c:Ctx P}{ms:List Nat}{n:Nat}{fr:Frm}{h:Heap}{a:Act}{w:World}{ro rb:Option Nat}
def Rf(h:Heap)(i:Nat)(o:Obj):(h.set i o).del i=h.del i:=by simp_all [Heap.set,Heap.del]
def Sim.mark{w0:Base}(d:Sim w0 os M ρ h w):Sim w0 (w.heap.size::os) M ρ h (w.alloc (.deferred (some []))):=by
 have a:=d.alloc (.deferred (some []));refine { below:=a.below,imm:=a.imm,live:=a.live,apart:=a.apart,gdef:=λb c=> ?_,old:=a.old };rcases z7.1 c with rfl|c
 .refine⟨d.nokeep (zC _),?_⟩
  show(w.heap.push _)[w.heap.size]? =_;simp
 .exact a.gdef b c
def Sim.gdef_lt{w0:Base}(c:Sim w0 os M ρ h w){b:Nat}(a:b∈os):b<w.heap.size:=(yF.1 (c.gdef b a).2).1
def l7.upd{o:Obj}(hf:l7 ρ h.next):l7 (nQ ρ h.next l) (h.new h.next o).next:=λi a=>by
 simp only[Heap.new]at a
 have:i≠h.next:=ow;simp only[nQ,this,yp];exact hf i ow
def Sim.loop{w0:Base}(e:Sim w0 os M ρ h w)(hf:l7 ρ h.next)(L:Go.Loop)(r:LRec)(e1:L.state=r.st)(e2:L.pending=r.pending)(e3:L.params=r.params)(a:L.assign=r.assign)(b:L.body=r.body)
  (c:L.tmps.size=r.n) (d:VX M ρ r.fr L.tmps):Sim w0 os M (nQ ρ h.next ⟨w.heap.size,0,0⟩) (h.new h.next (.loop r)) (w.alloc (.loop L)):=by
 refine e.allocObj (hf _ (zC _)) (.loop L) (.loop r) ⟨w.heap.size,0,0⟩ rfl ⟨L,?_,e1,e2,e3,a,b,c,kO (MLe.refl _) (tA (hf _ (zC _))) d⟩;show(w.heap.push _)[w.heap.size]? =_;simp
def Sim.setLoop{w0:Base}(g:Sim w0 os M ρ h w){r:LRec}(i:h.at' id=some (.loop r))(j:ρ id=some l)(st:LoopState)(p:Option Code):
  ∃L:Go.Loop,w.heap[l.blk]? =some (.loop L)/\L.state=r.st/\L.pending=r.pending/\L.params=r.params/\L.assign=r.assign/\L.body=r.body/\L.tmps.size=r.n/\VX M ρ r.fr L.tmps/\
   Sim w0 os M ρ (h.set id (.loop { r with st:=st,pending:=p })) { w with heap:=w.heap.setIfInBounds l.blk (.loop { L with state:=st,pending:=p }) } :=by
 obtain⟨m,h1,c,L,a,k1,k2,k3,k4,k5,k6,k7⟩:=g.live id _ i;rw[j]at h1;cases h1;have f:l.blk<w.heap.size:=by grind
 refine⟨L,a,k1,k2,k3,k4,k5,k6,k7,?_⟩;refine g.put i j rfl rfl rfl jS (λb k=>by simp only[uv];rw[iq (λe=>k e.symm)]) (λo v e=> ?_) ⟨_,a,λd=>by simp⟩ ⟨{ L with state:=st,pending:=p },by simp[f],rfl,rfl,k3,k4,k5,k6,k7⟩;have:=g.imm _ _ _ e;simp[World.cell?,a]at this
def mf{b:Nat}{L:Go.Loop}(h:w.heap[b]? =some (.loop L)):(Instr.getLoop b).run P w=.ok L w:=by
 simp[Instr.getLoop,getObj,Sem.run,h]
def cU{b:Nat}{L:Go.Loop}{a:Go.Obj}(h:w.heap[b]? =some (.loop L)):(setObj b a).run P w=.ok () { w with heap:=w.heap.setIfInBounds b a } :=by
 simp[setObj,Sem.run,h]
def zEy{J:Nat->Prop} :∀k,J k->∃k,J k/\∀m,J m->k<=m:=by
 intro k
 induction k using Nat.strongRecOn with
 |_ k a=>
  grind
theorem NO:∀{l:List (Nat×Fl)},alN l=0->∀x∈l,x.2.isAl=false
 | [],_,x,a=>by cases a
 |y::l,h,x,a=>by
  simp only[alN]at h;split at h
  .omega
  .rename_i b
   rcases z7.1 a with rfl|a
   .grind [Fl.isAl]
   .exact NO h x a
theorem Fz:∀{l:List (Nat×Fl)}{x:Nat×Fl}{k:Nat},x∈l->x.2=.al k->k<alN l
 | [],x,k,a,_=>by cases a
 |y::l,x,k,a,b=>by
  simp only[alN];rcases z7.1 a with rfl|a
  .grind
  .have:=Fz a b
   split<;>omega
def KX{ops:Array Oper}{l:List (Nat×Fl)}{m:Nat}(c:alN l=m+1)(h:zJO ops l=true):(∀(i:Nat)(o:Oper),ops[i]? =some o->uZ o.op=none)/\∀x∈l,∀y∈l,∀k,x.2=.al k->y.2=.al k->x.1=y.1:=by
 unfold zJO at h;rw[c]at h;simp only[zF,zT]at h;refine⟨λi o a=> ?_,λx e y f k d b=> ?_⟩
 .have:=h.1 o (by rw[<-qA]at a;exact zh a)
  simpa using this
 .grind
def Sim.bump{w0:Base}(a:Sim w0 os M ρ h w)(m:Nat):Sim w0 os M ρ (h.bump m) w:=
 { below:=a.below,imm:=a.imm,live:=a.live,apart:=a.apart,gdef:=a.gdef,old:=a.old }
section
variable{b:Frame}{k:List Item}{cs:List Frame}{F:Fence}{P:Program}{a:Act}{w:World}{n:Nat}{Q:Exit->Act->World->Prop}
def ou{c:Code} :step P (lone (b.atR a (.code (.scope c)::k)) cs w)=.next (lone (b.atR a (.code c::.inScope c::k)) cs w):=
 step_lone_go (by simp[stepG,stepG.exec,Frame.atR])
def TG{c:Code} :step P (lone (b.atR a (.inScope c::k)) cs w)=.next (lone (b.atR a k) cs w):=
 step_lone_go (by simp[stepG,stepG.exec,Frame.atR])
def KK{c:Code}(h:c.wpIn F n P (Exit.noGoto Q) a w):(Code.scope c).wpIn F n P Q a w:=by
 intro b k cs p j hr;have h0:(lone (b.atR a (.code (.scope c)::k)) cs w).fenced P F:=fenced_calm j hr rfl;obtain⟨e,g,i,f,d⟩:=h b (.inScope c::k) cs p j hr;cases e with
 |normal=>exact⟨.normal,g,i,f,.head h0 ou (StepsIn.trans d (.one (fenced_calm j hr rfl) TG))⟩
 |exit id=>
  have q:exitTo id (.inScope c::k)=exitTo id k:=by simp[exitTo]
  exact⟨.exit id,g,i,f,λk' m=>.head h0 ou (d.1 k' (by rw[q];exact m)),λo m=>let ⟨k1,h1,h2⟩:=d.2 o (by rw[q];exact m);⟨k1,h1,.head h0 ou h2⟩⟩
 |goto l=>exact f.elim
 |ret=>exact⟨.ret,g,i,f,.of_steps (.one h0 ou) d⟩
 |panic r=>exact⟨.panic r,g,i,f,.of_steps (.one h0 ou) d⟩
 |outgrown=>exact⟨.outgrown,g,i,f,.of_steps (.one h0 ou) d⟩
end
theorem qp(q:P.follows .mixedOrders=true):∀(co:Code)(c:Ctx P)(Q:Exit->Frm->Heap->Prop)(ms:List Nat)(fr:Frm)(h:Heap)(a:Act)(w:World),tO P g n co=true->zHs c ro rb->StM c ms n fr h a w->vwp P g n ro co Q fr h->
  co.wpIn (Fr rb) 0 P (KU c n Q) a w
 |.skip,c,Q,ms,fr,h,a,w,d,p,s,j=>wpIn_skip ⟨ms,fr,h,s,j⟩
 |.exit id,c,Q,ms,fr,h,a,w,d,p,s,j=>wpIn_exit ⟨ms,fr,h,s,j⟩
 |.ret,c,Q,ms,fr,h,a,w,d,p,s,j=>wpIn_ret ⟨ms,fr,h,s,j⟩
 |.seq x y,c,Q,ms,fr,h,a,w,d,p,s,j=>by
  simp only[tO,zF]at d;simp only[vwp]at j;refine wpIn_seq (rc (qp q x c _ ms fr h a w d.1 p s j) λe a' w' A=> ?_);obtain⟨D,B,h',C,A⟩:=A;cases e with
  |normal=>exact qp q y c Q D B h' a' w' d.2 p C A
  |_=>exact⟨D,B,h',C,A⟩
 |.block id x,c,Q,ms,fr,h,a,w,d,p,s,j=>by
  simp only[tO]at d;simp only[vwp]at j;refine wpIn_block (rc (qp q x c _ ms fr h a w d p s j) λe a' w' A=> ?_);obtain⟨D,B,h',C,A⟩:=A;cases e with
  |exit i=>
   simp only[jk]at A;simp only[Exit.inBlock];split at A
   .rename_i N;rw[ip N];exact⟨D,B,h',C,A⟩
   .rename_i N;rw[iq N];exact⟨D,B,h',C,A⟩
  |_=>exact⟨D,B,h',C,A⟩
 |.cond x y z,c,Q,ms,fr,h,a,w,d,p,s,j=>by
  simp only[tO,zF]at d;simp only[vwp]at j;obtain⟨M,ρ,h1,S,h3,W,h5,h6,h7⟩:=s.1;have K:=fy h5 d.1.1;split at j
  .rename_i b T
   rw[T]at K;simp only[rel]at K;refine wpIn_cond (t:=b) K ?_;cases b with
   |true=>exact qp q y c Q ms fr h a w d.1.2 p s j
   |false=>exact qp q z c Q ms fr h a w d.2 p s j
  .exact j.elim
 |.region id ops a4,c,Q,ms,fr,h,a,w,d,p,s,j=>by
  simp only[tO,zF]at d;simp only[vwp]at j;obtain⟨H,Z,ad⟩:=s;have hK:∀fr h a w,St c ms n fr h a w->Q .normal fr h->KU c n Q .normal a w:=λfr h a w k1 k2=>⟨ms,fr,h,⟨k1,Z,ad⟩,k2⟩;cases a4 with
  |false=>
   refine wpIn_region ?_;have:=Vy (ro:=rb) d.1 hK ops.toList [] rfl fr h a w H j;simpa [List.range_eq_range']using this
  |true=>
   have hd:JV P g.mu ops (g.dr id)=true:=by simpa using d.2
   unfold JV at hd;simp only[zF,qz]at hd;obtain⟨⟨⟨⟨⟨d1,d2⟩,d5⟩,a9⟩,d4⟩,d6⟩:=hd;have d3:=LQ a9;have a7:∀i,i<ops.size->i∈(g.dr id).map (·.1):=λi N=>by
    have:=zT.1 d1 i (yz.2 N);simpa using this
   obtain⟨h0,U,j⟩:=j;obtain⟨hh,bb,R,bx,j⟩:∃hh,HLe h0 hh/\StU c (zAA h0.next (g.dr id)) ms n fr hh a { w with drawn:=w.drawn+1 } /\zBI h0 ops (g.dr id)/\nR P g.mu h0 (Hf P g.mu ops (g.dr id) (Z9 ops.toList 0 [])) ops ((g.dr id).any (·.2.isSt)) (g.dr id) (Q .normal) fr hh:=by
    have R:St c ms n fr h a { w with drawn:=w.drawn+1 } :=by
     obtain⟨M,ρ,h1,S,h3,W⟩:=H;exact⟨M,ρ,h1,S,h3.drew,W⟩
    cases X:alN (g.dr id)with
    |zero=>
     rw[aL X]at j;have a8:=NO X;refine⟨h,U,R.stu λi N=> ?_,.inl a8,j⟩;obtain⟨x,K,k,hk,_⟩:=N;have:=a8 x K;rw[hk]at this;cases this
    |succ m=>
     rw[HC X]at j;obtain⟨b7,j⟩:=j;obtain⟨c1,c2⟩:=KX X d6;obtain⟨M,ρ,h1,S,h3,W,h5,h6,h7⟩:=R;refine⟨h.bump (m+1),U,⟨M,ρ,h1,S,h3.bump _,λi N=>W i ?_,h5,h6,h7,λi N=> ?_⟩,.inr ⟨c1,c2,λk=> ?_⟩,j⟩
     .simp only[Heap.bump]at N;omega
     .obtain⟨x,K,k,hk,rfl⟩:=N
      have:=Fz K hk;refine⟨?_,W _ ow⟩;simp only[Heap.bump];omega
     .cases hz:h0.at' (h0.next+k)with
      |none=>rfl
      |some ob=>
       obtain⟨l,hl,_⟩:=h3.live _ _ (U _ _ hz);rw[W _ ow]at hl;cases hl
   have a1:((g.dr id).map (·.1)).Nodup:=by simpa using d5
   refine wpIn_region_any q (NF (ro:=rb) (h0:=h0) d.1 hK ops.size ((g.dr id).any (·.2.isSt)) (g.dr id) _ fr hh a _ ow a1 (λi N=> ?_) jS (λk o hk hl=> ?_) d3 d4 (λ_=>bb) (λx K aj=>yu.2 ⟨x,K,aj⟩) (λy hy T x=>Kb hy T x) (λx K T z hz H=>GA T hz H) bx R j)
   .simp[N,a7 i N]
   .have:=(yF.1 hk).1
    simp[this]at hl
 |.loop x,c,Q,ms,fr,h,a,w,d,p,s,j=>by
  simp only[tO]at d;simp only[vwp]at j;obtain⟨I,⟨k,hI⟩,ag⟩:=j
  classical
  let J:Nat->Act->World->Prop:=λk a w=>∃ms fr h,StM c ms n fr h a w/\I k fr h
  have O:∀a w,∃m,(∃k,J k a w)->J m a w/\∀k,J k a w->m<=k:=λa w=>by
   by_cases K:∃k,J k a w
   .obtain⟨k,hk⟩:=K
    obtain⟨m,h1,S⟩:=zEy (J:=λk=>J k a w) k hk;exact⟨m,λ_=>⟨h1,S⟩⟩
   .exact⟨0,λh=>absurd h K⟩
  let μ:Act->World->Nat:=λa w=>Classical.choose (O a w)
  have hμ:∀a w,(∃k,J k a w)->J (μ a w) a w/\∀k,J k a w->μ a w<=k:=λa w=>j0 (O a w);refine wpIn_loop (λa w=>∃k,J k a w) μ ⟨k,ms,fr,h,s,hI⟩ λa w K=> ?_;obtain⟨⟨D,B,h',C,ba⟩,_⟩:=hμ a w K;refine rc (qp q x c _ D B h' a w d p C (ag _ _ _ ba)) λe a' w' A=> ?_;obtain⟨a3,ak,S,a2,A⟩:=A;cases e with
  |normal=>
   obtain⟨m,bs,a5⟩:=A;have aj:∃k,J k a' w':=⟨m,a3,ak,S,a2,a5⟩;exact⟨aj,Nat.lt_of_le_of_lt ((hμ a' w' aj).2 m ⟨a3,ak,S,a2,a5⟩) bs⟩
  |_=>exact⟨a3,ak,S,a2,A⟩
 |.rangeFunc f ps as body,c,Q,ms,fr,h,a,w,d,p,s,j=>by
  simp only[tO,zF]at d;obtain⟨⟨⟨o1,o2⟩,o3⟩,o4⟩:=d;simp only[vwp]at j;obtain⟨b4,V⟩:=j;obtain⟨⟨M,ρ,h1,S,h3,W,h5,h6,h7⟩,Z,ad⟩:=s;have rf:=fy h5 o1;generalize hD:qy fr f=D0 at V rf;cases D0<;>simp only[VFn]at V;rename_i g0 first cap
  cases g0<;>simp only at V;rename_i g1;simp only[rel]at rf;obtain⟨_,va,vc,ef,b5,b6⟩:=rf;refine wpIn_rangeFunc λfn _=> ?_;obtain⟨E,L,u,Y,b3,a1,b1,l1,l2,l3,l4,l5,l6⟩:∃ (E:List Nat) (L:Go.Loop) (u:World),(Instr.enterLoop fn a.tmps ps as body rb).run P w=.ok (u.heap.size,E.map R2) (u.alloc (.loop L))/\
    Sim c.w0 (E++ms++c.G) M ρ h u/\(E++ms).Nodup/\(∀b∈E++ms,b∉c.G)/\L.state=.ready/\L.pending=none/\L.tmps=a.tmps/\L.params=ps/\L.assign=as/\L.body=body:=by
   cases rb with
   |none=>
    refine⟨[w.heap.size],{ state:=.ready,pending:=none,fn:=fn,tmps:=a.tmps,params:=ps,assign:=as,body:=body,defers:=w.heap.size },w.alloc (.deferred (some [])),?_,h3.mark,?_,?_,rfl,rfl,rfl,rfl,rfl,rfl⟩
    .simp[Instr.enterLoop,R2]
    .rw[List.singleton_append,px]
     exact⟨λT=>wH _ (h3.gdef_lt (dF _ T)),Z⟩
    .intro b T hg
     rcases z7.1 T with rfl|T
     .exact wH _ (h3.gdef_lt (nG _ hg))
     .exact ad b T hg
   |some b=>
    cases ro with
    |none=>exact p.elim
    |some id=>
     obtain⟨l,bk,bo⟩:=p;obtain⟨r,hr⟩:=b4;obtain⟨l',g1,_,L0,g2,_⟩:=h3.live id _ hr;rw[S _ _ bk]at g1;cases g1;rw[bo]at g2;refine⟨[],{ state:=.ready,pending:=none,fn:=fn,tmps:=a.tmps,params:=ps,assign:=as,body:=body,defers:=L0.defers },w,?_,h3,Z,ad,rfl,rfl,rfl,rfl,rfl,rfl⟩;simp[Instr.enterLoop,mf g2]
  have b2:=b3.loop W L ⟨.ready,none,fr,ps,as,body,n⟩ l1 l2 l4 l5 l6 (by rw[l3];exact h7) (by rw[l3];exact h5);have ai:RLe ρ (nQ ρ h.next ⟨u.heap.size,0,0⟩):=tA (W _ (zC _));refine⟨u.heap.size,E.map R2,u.alloc (.loop L),{ target:=.fn (.func g1) vc,args:=va++ #[.func (.yield u.heap.size) #[] #[]] },u.alloc (.loop L),g1,va++ #[.func (.yield u.heap.size) #[] #[]]++vc,u.alloc (.loop L),Y,?_,λ_ _=>trivial,?_,λe=>(by cases e),?_⟩
  .simp only[resolve,rangeCall,ef,Deferred.ofValue]
   simp[Act.eval]
  .exact Zq V.1 _ _
  .have a0:=V.2 c.w0 (E++ms++c.G) M _ _ (va++ #[.func (.yield u.heap.size) #[] #[]]++vc) c.good b2 (l7.upd W) (by
    simp only[mH];refine uk (uk (rW (MLe.refl _) ai _ _ b5) ?_) (rW (MLe.refl _) ai _ _ b6);simp only[wG,rel];exact⟨_,[],rfl,⟨_,by simp[nQ];rfl,rfl⟩,rfl⟩)
   refine CallsIn.mono (F:=Fr rb) (n:=0-1) (gL.2 a0) λe w3 he=> ?_;obtain⟨v,M',ρ',d',h',rfl,q1,q2,q3,q4,q5,r,r1,r2,r3⟩:=he;have hl:ρ' h.next=some ⟨u.heap.size,0,0⟩:=q2 _ _ (by simp[nQ]);obtain⟨L3,e1,e2,e3,_,_,_,_,_,hS⟩:=q3.setLoop r1 hl .exhausted r.pending;have a6:({ L3 with state:=.exhausted,pending:=r.pending } :Go.Loop)= { L3 with state:=.exhausted } :=by rw[<-e3]
   rw[a6]at hS;have hS:=hS.del h.next;rw[Rf]at hS;have au:(L3.state==LoopState.busy)=false:=by rw[e2];simpa using r2
   refine⟨r.pending,{ w3 with heap:=w3.heap.setIfInBounds u.heap.size (.loop { L3 with state:=.exhausted }) },?_,?_⟩
   .simp only[Instr.endLoop,zq,mf e1,zZ,au,zg,yp,cU e1,yL,e3]
   .have H:StM c (E++ms) n fr (h'.del h.next) { a with defers:=E.map R2++a.defers } { w3 with heap:=w3.heap.setIfInBounds u.heap.size (.loop { L3 with state:=.exhausted }) } :=
     ⟨⟨M',ρ',h1.trans q1,(S.trans ai).trans q2,hS,q4,kO q1 (ai.trans q2) h5,by simp[h6],h7⟩,a1,b1⟩
    cases hp:r.pending with
    |none=>rw[hp]at r3;exact⟨_,_,_,H,r3⟩
    |some cc=>
     rw[hp]at r3;cases cc<;>simp only[Wd]at r3
     .exact wpIn_exit ⟨_,_,_,H,r3⟩
     .exact wpIn_ret ⟨_,_,_,H,r3⟩
 |.label _,c,Q,ms,fr,h,a,w,d,p,s,j=>wpIn_label ⟨ms,fr,h,s,j⟩
 |.goto _,_,_,_,_,_,_,_,d,_,_,_=>by simp[tO]at d
 |.scope x,c,Q,ms,fr,h,a,w,d,p,s,j=>by
  simp only[tO]at d;simp only[vwp]at j;refine KK (rc (qp q x c _ ms fr h a w d p s j) λe a' w' A=> ?_);obtain⟨D,B,h',C,A⟩:=A;cases e with
  |goto l=>exact A.elim
  |_=>exact⟨D,B,h',C,A⟩
 |.refuse ..,_,_,_,_,_,_,_,_,_,_,j=>by simp[vwp]at j
end
def ZL(fr:Frm):List Tmp->List D->Frm
 |t::ts,d::ds=>ZL (pv fr (some t) d) ts ds
 |_,_=>fr
def U5(Q:D->Heap->Prop)(id:Nat)(L:LRec)(e:Exit)(h:Heap):Prop:=
 match e with
 |.normal=>Q (.bool true) (h.set id (.loop { L with st:=.ready,pending:=none }))
 |.ret=>Q (.bool false) (h.set id (.loop { L with st:=.done,pending:=some .ret }))
 |.exit i=>Q (.bool false) (h.set id (.loop { L with st:=.done,pending:=some (.exit i) }))
 |_=>False
def HM(P:Program)(fr:Frm)(h:Heap):ResultVar->Option D
 |.tmp t=>some (fr t)
 |.cell a t=>kT P t (fr a) h
def n8(P:Program)(fr:Frm)(h:Heap):List ResultVar->Option (List D)
 | []=>some []
 |r::rs=>match HM P fr h r with
  |none=>none
  |some d=>match n8 P fr h rs with
   |none=>none
   |some ds=>some (d::ds)
def bi(ds:List D):D:=
 match ds with
 | [d]=>d
 |ds=>.tuple ds
def UX(args:List D):Frm:=λi=>match args[i]? with
 |some d=>d
 |none=>si
def Hi(P:Program)(rs:List ResultVar)(Q:D->Heap->Prop)(e:Exit)(fr:Frm)(h:Heap):Prop:=
  (match e with
   |.normal=>True
   |.ret=>True
   |_=>False)/\
  match n8 P fr h rs with
  |some ds=>Q (bi ds) h
  |none=>False
section
variable{P:Program}{g:Cfg}{c:Ctx P}{ms:List Nat}{n:Nat}{fr:Frm}{h:Heap}{a:Act}{w:World}{ro rb:Option Nat}{M:Imm}{ρ:Ren}{w0:Base}{G:List Nat}
def Ve(tmps:Array Value):ResultVar->Sem Value
 |.tmp t=>pure (tmps.getD t undef)
 |.cell a t=>do loadVar t (<-asAddr (tmps.getD a undef))
def FT(j:Sim w0 G M ρ h w)(hf:VX M ρ fr tmps){r:ResultVar}(hr:HM P fr h r=some d):
  ∃v,(Ve tmps r).run P w=.ok v w/\rel M ρ d v:=by
 cases r with
 |tmp t=>cases hr;exact⟨_,rfl,hf t⟩
 |cell b t=>
  simp only[HM]at hr;have g:=hf b;unfold kT at hr;split at hr
  .cases hr
  .rename_i ag a
   split at hr
   .rename_i cs off c
    rw[c]at g;obtain⟨b',p,e,m⟩:=g;obtain⟨v,h1,f⟩:=(j.holds m).loadVar a hr;exact⟨v,by simp[Ve,e,asAddr,h1],f⟩
   .rename_i id off c
    rw[c]at g;obtain⟨l,k,e⟩:=g;split at hr
    .rename_i cs i
     obtain⟨v,h1,f⟩:=(j.row i k).loadVar a hr;rw[yH]at h1;exact⟨v,by simp[Ve,e,asAddr,h1],f⟩
    .rename_i u full cs i
     obtain⟨v,h1,f⟩:=(j.trow i k).loadVar a hr;rw[yH]at h1;exact⟨v,by simp[Ve,e,asAddr,h1],f⟩
    .cases hr
   .cases hr
theorem MW(b:Sim w0 G M ρ h w)(hf:VX M ρ fr tmps):∀{rs:List ResultVar}{ds:List D},n8 P fr h rs=some ds->
  ∃vs,(rs.mapM (Ve tmps)).run P w=.ok vs w/\wG M ρ ds vs
 | [],ds,hr=>by cases hr;exact⟨[],rfl,rfl⟩
 |r::rs,ds,hr=>by
  simp only[n8]at hr;split at hr
  .cases hr
  .rename_i d e
   split at hr
   .cases hr
   .rename_i c a
    cases hr;obtain⟨v,v1,f⟩:=FT (P:=P) b hf e;obtain⟨vs,s1,s2⟩:=MW b hf a;refine⟨v::vs,?_,⟨v,vs,rfl,f,s2⟩⟩
    simp_all [List.mapM_cons]
def X6(b:Sim w0 G M ρ h w)(hf:VX M ρ fr tmps){fn:Func}(hr:n8 P fr h fn.results.toList=some ds):
  ∃v,(results fn tmps).run P w=.ok v w/\rel M ρ (bi ds) v:=by
 obtain⟨vs,s1,s2⟩:=MW (P:=P) b hf hr;have a:=yw s2;refine⟨if h:vs.toArray.size=1 then vs.toArray[0]else .tuple vs.toArray,?_,?_⟩
 .unfold results
  rw[Array.mapM_eq_mapM_toList];change (do
   let vs<-Functor.map List.toArray (List.mapM (Ve tmps) fn.results.toList)
   pure (if h:vs.size=1 then vs[0]else .tuple vs):Sem Value).run P w=_
  simp_all
 .match ds,vs,a,s2 with
  | [],[],_,_=>simp only[bi,rel,wG];exact⟨#[],rfl,rfl⟩
  | [d],[v],_,s2=>
   grind [wG,bi]
  |d::c::ds,v::e::vs,_,s2=>
   grind [bi,rel]
variable{k:Nat}
theorem ZO{fn:Func}{R:Ending->World->Prop}{F:Fence} :∀(ms:List Nat)(w:World),Sim w0 (ms++G) M ρ h w->ms.Nodup->(∀b∈ms,b∉G)->
  (∀j,Sim w0 G M ρ h j->∃v,(results fn tmps).run P j=.ok v j/\R (.returned v) j)->LeavesInM F k P fn tmps R (ms.map R2) .returning w
 | [],w,a,_,_,n=>by
  exact n w a
 |b::ms,w,a,r,s,n=>by
  obtain⟨h1,c⟩:=a.gdef b jS;refine⟨jS,.inl ⟨b,{ w with heap:=w.heap.setIfInBounds b (.deferred none) },rfl,?_,?_⟩⟩
  .simp[Instr.takeDeferred,getObj,setObj,Sem.run,c]
  .refine ZO ms _ ?_ (px.1 r).2 (λx B=>s x (by simp[B])) n
   have p:∀b',b'≠b->(w.heap.setIfInBounds b (.deferred none))[b']? =w.heap[b']? :=by grind
   refine { below:=⟨a.below.os,a.below.tape,a.below.output,by simpa using a.below.size,λq y=> ?_,a.below.drawn⟩,imm:=λb' o v e=> ?_,live:=λi z e=> ?_,apart:=a.apart,gdef:=λb' A=> ?_,old:=a.old }
   .rw[p q (λe=>h1 (e▸y))];exact a.below.block q y
   .have:=a.imm b' o v e
    have f:b'≠b:=by
     intro m;subst m;simp[World.cell?,c]at this
    rw[<-this];exact wa (w:=w) (p b' f)
   .obtain⟨l,t,u,d⟩:=a.live i z e
    refine⟨l,t,u,sM (p _ λm=> ?_) d⟩;rw[<-m]at c;cases z with
    |row _=>obtain⟨_,_,_,g,_⟩:=d;rw[c]at g;cases g
    |tok=>obtain⟨_,_,_,_,g,_⟩:=d;rw[c]at g;cases g
    |map _=>obtain⟨_,_,g,_⟩:=d;rw[c]at g;cases g
    |loop _=>obtain⟨_,g,_⟩:=d;rw[c]at g;cases g
    |siter _ _=>obtain⟨_,g,_⟩:=d;rw[c]at g;cases g
    |trow _ _ _=>obtain⟨_,_,_,g,_⟩:=d;rw[c]at g;cases g
   .have f:b'≠b:=by
     grind
    obtain⟨t,u⟩:=a.gdef b' (by simp only[yG,z7];exact .inr A)
    grind
def VY(hr:wG M ρ args va.toList)(k:Nat):VX M ρ (UX args) (va++Array.replicate k undef):=by
 intro i;have f:=yw hr;unfold UX;cases e:args[i]? with
 |some d=>
  obtain⟨v,h1,c⟩:=th hr i d e;have b:i<va.size:=by grind
  have:(va++Array.replicate k undef).getD i undef=v:=by
   rw[wQ,tP b,<-qA,h1];rfl
  rw[this];exact c
 |none=>
  have a:va.size<=i:=by grind
  have:(va++Array.replicate k undef).getD i undef=undef:=by
   rw[wQ,Array.getElem?_append_right a]
   grind
  rw[this];exact gj
variable{Q:D->Heap->Prop}
def zD.of_body(j:P.follows .mixedOrders=true){fn:Func}{co:Code}(hf:P.funcs[f]? =some fn)(l:fn.body=some co)(z:(fn.name== "runtime.NumGoroutine")=false)(p:tO P g fn.ntmps co=true)
  (D:args.length<=fn.ntmps) (B:vwp P g fn.ntmps none co (Hi P fn.results.toList Q) (UX args) h):zD P f args h Q:=by
 refine⟨by simp[rP,hf,l,bne,z],λw0 G M ρ w t i A o hr=> ?_⟩;have r:=yw hr;rw[yI]at r;refine gL.1 (cF (F:=Fence.wide) (n:=0) hf l trivial ?_);have q:StM ⟨w0,G,M,ρ,i⟩ [] fn.ntmps (UX args) h { tmps:=t++Array.replicate (fn.ntmps-t.size) undef,defers:=[] } w:=
  ⟨⟨M,ρ,MLe.refl _,RLe.refl _,A,o,VY hr _,rfl,jO⟩,lR,λb l=>by cases l⟩
 refine rc (qp (ro:=none) (rb:=none) j co ⟨w0,G,M,ρ,i⟩ _ [] _ _ _ _ p trivial q B) λe s u c=> ?_;obtain⟨ms,m,h',⟨⟨M',C,k1,k2,k3,k4,k5,k6,k7⟩,k8,k9⟩,c⟩:=c;have d:∀ds,n8 P m h' fn.results.toList=some ds->Q (bi ds) h'->LeavesInM Fence.wide 0 P fn s.tmps (Ret w0 G M ρ Q) s.defers .returning u:=λds a x=>by
  rw[k6];refine ZO ms u k3 k8 k9 λE k=> ?_;obtain⟨v,r1,r2⟩:=X6 (P:=P) k k5 a;exact⟨v,r1,v,M',C,_,h',rfl,k1,k2,k,k4,r2,x⟩
 obtain⟨y,c⟩:=c;split at c
 .rename_i ds a
  cases e with
  |normal=>exact d ds a c
  |ret=>exact d ds a c
  |_=>exact y.elim
 .exact c.elim
def Sim.fewer(a:Sim w0 G M ρ h w)(d:∀x∈os,x∈G):Sim w0 os M ρ h w:=
 { below:=a.below,imm:=a.imm,live:=a.live,apart:=a.apart,gdef:=λb c=>a.gdef b (d b c),old:=a.old }
theorem VZ:∀(a:List Tmp)(ds:List D)(vs:List Value)(fr:Frm)(tmps:Array Value),VX M ρ fr tmps->wG M ρ ds vs->(∀t∈a,t<tmps.size)->a.length=ds.length->
  VX M ρ (ZL fr a ds) ((a.zip vs).foldl (λtmps p=>tmps.setIfInBounds p.1 p.2) tmps)/\((a.zip vs).foldl (λtmps p=>tmps.setIfInBounds p.1 p.2) tmps).size=tmps.size
 | [],[],vs,fr,tmps,hf,hr,c,b=>by
  exact⟨hf,rfl⟩
 |t::a,d::ds,vs,fr,tmps,hf,hr,c,b=>by
  obtain⟨v,e,rfl,h1,f⟩:=hr;simp only[py,List.foldl_cons,ZL];have:=VZ a ds e (pv fr (some t) d) (tmps.setIfInBounds t v) (YX hf h1 (c t jS)) f (λu g=>by simpa using c u (by simp[g])) (by simpa using b)
  grind
 | [],_::_,_,_,_,_,_,_,b=>by simp at b
 |_::_,[],_,_,_,_,_,_,b=>by simp at b
def wo.of_round(j:P.follows .mixedOrders=true){L:LRec}(hL:h.at' id=some (.loop L))(r:args.length=L.params.size)(ai:L.params.toList.all (λt=>decide (t<L.n))=true)
  (W:tO P g L.n L.assign=true) (X:tO P g L.n L.body=true)
  (hv:vwp P g L.n (some id) L.assign (λe o h1=>match e with
   |.normal=>∃k,h1.at' id=some (.loop k)/\k.st=.ready/\vwp P g L.n (some id) L.body (λe _ F=>∃D,F.at' id=some (.loop D)/\U5 Q id D e F) o (h1.set id (.loop { k with st:=.busy }))
   |_=>False) (ZL L.fr L.params.toList args) h):wo P id args h Q:=by
 intro w0 G M ρ w C l f hs O hr R;obtain⟨l',h1,N,m,g1,g2,g3,g4,g5,g6,g7,g8⟩:=hs.live id _ hL;have aj:=yw hr;have s:∀t∈L.params.toList,t<m.tmps.size:=by grind
 obtain⟨p1,p2⟩:=VZ L.params.toList args C.toList L.fr m.tmps g8 hr s (by rw[yI];exact r.symm);have ad:((L.params.zip C).foldl (λtmps x=>match x with|(t,a)=>tmps.setIfInBounds t a) m.tmps)=(L.params.toList.zip C.toList).foldl (λtmps p=>tmps.setIfInBounds p.1 p.2) m.tmps:=by
  rw[<-Array.foldl_toList,Array.toList_zip]
 refine⟨m.fn,(L.params.toList.zip C.toList).foldl (λtmps p=>tmps.setIfInBounds p.1 p.2) m.tmps,L.assign,L.body,?_,?_⟩
 .unfold Instr.yield
  simp_all [mf]
 .refine roundIn_of_wpIn trivial ?_
  have V:StM ⟨w0,G,M,ρ,f⟩ [] L.n (ZL L.fr L.params.toList args) h { tmps:=(L.params.toList.zip C.toList).foldl (λtmps p=>tmps.setIfInBounds p.1 p.2) m.tmps,defers:=[] } w:=
   ⟨⟨M,ρ,MLe.refl _,RLe.refl _,hs,O,p1,rfl,by rw[p2,g7]⟩,lR,λb K=>by cases K⟩
  have u:zHs ⟨w0,G,M,ρ,f⟩ (some id) (some l.blk):=⟨l,R,rfl⟩;refine rc (qp (rb:=some l.blk) j L.assign ⟨w0,G,M,ρ,f⟩ _ [] _ _ _ _ W u V hv) λe a1 I H=> ?_;obtain⟨B,o,h1,z,H⟩:=H;cases e with
  |normal=>
   obtain⟨k,j1,j2,j3⟩:=H;obtain⟨⟨M1,ρ1,k1,k2,k3,k4,k5,k6,k7⟩,k8,k9⟩:=z;have S:ρ1 id=some l:=k2 _ _ R;obtain⟨E,e1,e2,e3,_,_,_,_,_,Z⟩:=k3.setLoop j1 S .busy k.pending;have q:({ E with state:=.busy,pending:=k.pending } :Go.Loop)= { E with state:=.busy } :=by rw[<-e3]
   rw[q]at Z;refine⟨{ I with heap:=I.heap.setIfInBounds l.blk (.loop { E with state:=.busy }) },?_,?_⟩
   .simp only[Instr.beginRound,zq,mf e1,zZ,cU e1,e2,j2,yL]
   .have A:StM ⟨w0,G,M,ρ,f⟩ B L.n o (h1.set id (.loop { k with st:=.busy })) a1 { I with heap:=I.heap.setIfInBounds l.blk (.loop { E with state:=.busy }) } :=
     ⟨⟨M1,ρ1,k1,k2,Z,k4,k5,k6,k7⟩,k8,k9⟩
    refine rc (qp (rb:=some l.blk) j L.body ⟨w0,G,M,ρ,f⟩ _ B _ _ _ _ X u A j3) λe2 a2 Y U=> ?_;obtain⟨ak,ag,F,⟨⟨M2,ρ2,q1,q2,q3,q4,q5,q6,q7⟩,q8,q9⟩,D,t1,t2⟩:=U;have T:ρ2 id=some l:=q2 _ _ R;have d:∀(c:Option Code)(b:Bool)(st:LoopState),(c.isNone=b)->st=(if c.isNone then .ready else .done)->Q (.bool b) (F.set id (.loop { D with st:=st,pending:=c }))->
      ∃v w',(Instr.endRound l.blk c).run P Y=.ok v w'/\Ret w0 G M ρ Q (.returned v) w':=λc b st K y hQ=>by
     obtain⟨Ly,y1,_,_,_,_,_,_,_,J⟩:=q3.setLoop t1 T st c;refine⟨.bool b,{ Y with heap:=Y.heap.setIfInBounds l.blk (.loop { Ly with state:=st,pending:=c }) },?_,.bool b,M2,ρ2,.bool b,_,rfl,q1,q2,J.fewer (λx hx=>nG _ hx),q4,uW b,hQ⟩;simp only[Instr.endRound,zq,mf y1,zZ,cU y1,yL,K,y]
    cases e2 with
    |normal=>exact d none true .ready rfl rfl t2
    |ret=>exact d (some .ret) false .done rfl rfl t2
    |exit i=>exact d (some (.exit i)) false .done rfl rfl t2
    |_=>exact t2.elim
  |_=>exact H.elim
end
mutual
def below(k:Nat):D->Prop
 |.bool _=>True
 |.int _ _=>True
 |.str _=>True
 |.nilptr=>True
 |.ptr id _=>id<k
 |.iptr cs _=>qC k cs
 |.nilsl=>True
 |.sl _ xs tk=>oG k xs/\(match tk with|.own t=>t<k|_=>True)
 |.rs id _ _ _=>id<k
 |.nilmap=>True
 |.map id=>id<k
 |.fn _ a c=>qC k a/\qC k c
 |.yld id=>id<k
 |.nilfn=>True
 |.agg cs=>qC k cs
 |.tuple cs=>qC k cs
 |.iface _ d=>below k d
 |.niliface=>True
def qC(k:Nat):List D->Prop
 | []=>True
 |d::ds=>below k d/\qC k ds
def oG(k:Nat):List (List D)->Prop
 | []=>True
 |x::xs=>qC k x/\oG k xs
end
def Hh(k:Nat)(ρ:Ren):Ren:=λi=>if i<k then ρ i else none
variable{k n:Nat}{M:Imm}{fr:Frm}{P:Program}{w:World}{h h0:Heap}{K Q:D->Heap->Prop}{b:Bool}
def oU(h:i<k):Hh k ρ i=ρ i:=ip h
section
variable{M:Imm}{ρ:Ren}{k:Nat}
mutual
theorem pP(k:Nat)(M:Imm)(ρ:Ren):∀(d:D)(v:Value),below k d->rel M ρ d v->rel M (Hh k ρ) d v
 |.bool _,_,_,h=>by simpa [rel]using h
 |.int _ _,_,_,h=>by simpa [rel]using h
 |.str _,_,_,h=>by simpa [rel]using h
 |.nilptr,_,_,h=>by simpa [rel]using h
 |.ptr id off,_,b,h=>by simp only[below]at b;simpa only[rel,oU b]using h
 |.iptr cs off,_,b,h=>by
  simp only[rel,below]at h b⊢;obtain⟨x,p,h1,e⟩:=h;exact⟨x,p,h1,Xx k M ρ cs x p b e⟩
 |.nilsl,_,_,h=>by simpa [rel]using h
 |.sl sz xs tk,_,b,h=>by
  simp only[rel,below]at h b⊢;obtain⟨h0,m,x,p,cap,h1,e,h3,g⟩:=h;refine⟨h0,m,x,p,cap,h1,e,QI k M ρ sz xs x p b.1 h3,?_⟩;cases tk with
  |no=>trivial
  |full=>exact g
  |own t=>
   obtain⟨l,i,j⟩:=g;exact⟨l,by rw[oU b.2];exact i,j⟩
 |.rs id _ _ _,_,b,h=>by simp only[below]at b;simpa only[rel,oU b]using h
 |.nilmap,_,_,h=>by simpa [rel]using h
 |.map id,_,b,h=>by simp only[below]at b;simpa only[rel,oU b]using h
 |.fn f a c,_,b,h=>by
  simp only[rel,below]at h b⊢;obtain⟨h0,n,o,h1,e,h3⟩:=h;exact⟨h0,n,o,h1,md k M ρ a _ b.1 e,md k M ρ c _ b.2 h3⟩
 |.yld id,_,b,h=>by simp only[below]at b;simpa only[rel,oU b]using h
 |.nilfn,_,_,h=>by simpa [rel]using h
 |.agg cs,_,b,h=>by
  simp only[rel,below]at h b⊢;obtain⟨vs,h1,e,h3⟩:=h;exact⟨vs,h1,md k M ρ cs _ b e,h3⟩
 |.tuple cs,_,b,h=>by
  simp only[rel,below]at h b⊢;obtain⟨vs,h1,e⟩:=h;exact⟨vs,h1,md k M ρ cs _ b e⟩
 |.iface t d,_,b,h=>by
  simp only[rel,below]at h b⊢;obtain⟨u,h1,e⟩:=h;exact⟨u,h1,pP k M ρ d u b e⟩
 |.niliface,_,_,h=>by simpa [rel]using h
theorem md(k:Nat)(M:Imm)(ρ:Ren):∀(ds:List D)(vs:List Value),qC k ds->wG M ρ ds vs->wG M (Hh k ρ) ds vs
 | [],_,_,h=>by simpa [wG]using h
 |d::ds,_,b,h=>by
  simp only[wG,qC]at h b⊢;obtain⟨v,a,h1,c,h3⟩:=h;exact⟨v,a,h1,pP k M ρ d v b.1 c,md k M ρ ds a b.2 h3⟩
theorem Xx(k:Nat)(M:Imm)(ρ:Ren):∀(ds:List D)(b p:Nat),qC k ds->lM M ρ ds b p->lM M (Hh k ρ) ds b p
 | [],_,_,_,_=>by simp[lM]
 |d::ds,b,p,a,h=>by
  simp only[lM,qC]at h a⊢;obtain⟨⟨h0,v,h1,c⟩,h3⟩:=h;exact⟨⟨h0,v,h1,pP k M ρ d v a.1 c⟩,Xx k M ρ ds b (p+1) a.2 h3⟩
theorem QI(k:Nat)(M:Imm)(ρ:Ren):∀(sz:Nat)(xs:List (List D))(b p:Nat),oG k xs->gg M ρ sz xs b p->gg M (Hh k ρ) sz xs b p
 |_,[],_,_,_,_=>by simp[gg]
 |sz,x::xs,b,p,a,h=>by
  simp only[gg,oG]at h a⊢;exact⟨h.1,Xx k M ρ x b p a.1 h.2.1,QI k M ρ sz xs b (p+sz) a.2 h.2.2⟩
end
def l7.lt(hf:l7 ρ k)(h:ρ i=some l):i<k:=by
 by_cases a:i<k
 .exact a
 .rw[hf i ow]at h;cases h
mutual
theorem nM(hf:l7 ρ k):∀(d:D)(v:Value),rel M ρ d v->below k d
 |.bool _,_,_=>trivial
 |.int _ _,_,_=>trivial
 |.str _,_,_=>trivial
 |.nilptr,_,_=>trivial
 |.ptr id off,_,h=>by simp only[rel]at h;obtain⟨l,h1,_⟩:=h;exact hf.lt h1
 |.iptr cs off,_,h=>by
  simp only[rel,below]at h⊢;obtain⟨x,p,h1,b⟩:=h;exact ZG hf cs x p b
 |.nilsl,_,_=>trivial
 |.sl sz xs tk,_,h=>by
  simp only[rel,below]at h⊢;obtain⟨h0,j,x,p,cap,h1,b,h3,g⟩:=h;refine⟨VV hf sz xs x p h3,?_⟩;cases tk with
  |no=>trivial
  |full=>trivial
  |own t=>
   obtain⟨l,e,i⟩:=g;exact hf.lt e
 |.rs id _ _ _,_,h=>by simp only[rel]at h;obtain⟨_,_,l,_,_,h1,_⟩:=h;exact hf.lt h1
 |.nilmap,_,_=>trivial
 |.map id,_,h=>by simp only[rel]at h;obtain⟨l,h1,_⟩:=h;exact hf.lt h1
 |.fn f a c,_,h=>by
  simp only[rel,below]at h⊢;obtain⟨h0,m,n,h1,b,h3⟩:=h;exact⟨om hf a _ b,om hf c _ h3⟩
 |.yld id,_,h=>by simp only[rel]at h;obtain⟨l,h1,_⟩:=h;exact hf.lt h1
 |.nilfn,_,_=>trivial
 |.agg cs,_,h=>by
  simp only[rel,below]at h⊢;obtain⟨vs,h1,b,h3⟩:=h;exact om hf cs _ b
 |.tuple cs,_,h=>by
  simp only[rel,below]at h⊢;obtain⟨vs,h1,b⟩:=h;exact om hf cs _ b
 |.iface t d,_,h=>by
  simp only[rel,below]at h⊢;obtain⟨u,h1,b⟩:=h;exact nM hf d u b
 |.niliface,_,_=>trivial
theorem om(hf:l7 ρ k):∀(ds:List D)(vs:List Value),wG M ρ ds vs->qC k ds
 | [],_,_=>trivial
 |d::ds,_,h=>by
  simp only[wG,qC]at h⊢;obtain⟨v,a,h1,b,h3⟩:=h;exact⟨nM hf d v b,om hf ds a h3⟩
theorem ZG(hf:l7 ρ k):∀(ds:List D)(b p:Nat),lM M ρ ds b p->qC k ds
 | [],_,_,_=>trivial
 |d::ds,b,p,h=>by
  simp only[lM,qC]at h⊢;obtain⟨⟨h0,v,h1,a⟩,h3⟩:=h;exact⟨nM hf d v a,ZG hf ds b (p+1) h3⟩
theorem VV(hf:l7 ρ k):∀(sz:Nat)(xs:List (List D))(b p:Nat),gg M ρ sz xs b p->oG k xs
 |_,[],_,_,_=>trivial
 |sz,x::xs,b,p,h=>by
  simp only[gg,oG]at h⊢;exact⟨ZG hf x b p h.2.1,VV hf sz xs b (p+sz) h.2.2⟩
end
theorem Va(hf:l7 ρ' k):∀(ds:List (D×D))(f c:List MapEntry),pJ M' ρ' ds c->pJ M ρ ds f->pJ M (Hh k ρ) ds f
 | [],_,_,_,h=>by simpa [pJ]using h
 |(x,d)::ds,_,_,h0,h=>by
  simp only[pJ]at h h0⊢;obtain⟨e,a,h1,l,h3,m⟩:=h;obtain⟨n,b,_,g,i,j⟩:=h0;exact⟨e,a,h1,pP k M ρ _ _ (nM hf _ _ g) l,pP k M ρ _ _ (nM hf _ _ i) h3,Va hf ds a b j m⟩
def Pa{l E:Loc}(hf:l7 ρ' k):∀(n:Obj),sZ M' ρ' w' E n->sZ M ρ w l n->sZ M (Hh k ρ) w l n
 |.row cs,h0,h=>by
  obtain⟨a,c,e,h1,b,h3,f⟩:=h;obtain⟨_,p,_,_,_,_,m⟩:=h0;refine⟨a,c,e,h1,b,h3,λi d j=> ?_⟩;obtain⟨h5,v,x,y⟩:=f i d j;obtain⟨_,_,_,o⟩:=m i d j;exact⟨h5,v,x,pP k M ρ _ _ (nM hf _ _ o) y⟩
 |.tok,_,h=>h
 |.map G,h0,h=>by
  obtain⟨s,q,h1,b⟩:=h;obtain⟨u,_,_,z⟩:=h0;exact⟨s,q,h1,Va hf _ _ _ z b⟩
 |.loop r,h0,h=>by
  obtain⟨L,h1,b,h3,f,h5,B,C,D⟩:=h;obtain⟨F,_,_,_,_,_,_,_,A⟩:=h0;exact⟨L,h1,b,h3,f,h5,B,C,λi=>pP k M ρ _ _ (nM hf _ _ (A i)) (D i)⟩
 |.siter _ _,_,h=>h
 |.trow t full cs,h0,h=>by
  obtain⟨a,c,e,h1,b,h3,f,g⟩:=h;obtain⟨_,p,_,_,_,_,m,_⟩:=h0;refine⟨a,c,e,h1,b,h3,λi d j=> ?_,g⟩;obtain⟨h5,v,x,y⟩:=f i d j;obtain⟨_,_,_,o⟩:=m i d j;exact⟨h5,v,x,pP k M ρ _ _ (nM hf _ _ o) y⟩
end
def zD.gc{Q:D->Prop}(A:qC h.next args->zD P f args h λd h'=>HLe h h'/\below h.next d/\Q d)(y:rP P f=true):
  zD P f args h λd h'=>h'=h/\Q d:=by
 refine⟨y,λw0 G M ρ w J n c a hr=> ?_⟩;refine((A (om a _ _ hr)).2 w0 G M ρ w J n c a hr).mono λe N z=> ?_;obtain⟨v,M',u,d,h',rfl,k1,k2,k3,k4,k5,k6,k7,k8⟩:=z;have o:RLe ρ (Hh h.next u):=λi l b=>by rw[oU (a.lt b)];exact k2 i l b
 refine⟨v,M',Hh h.next u,d,h,rfl,k1,o,?_,λi b=>iq ow,pP _ _ _ _ _ k7 k5,rfl,k8⟩;refine { below:=k3.below,imm:=k3.imm,live:=λi g b=> ?_,apart:=λi j q r H I b p s t e=> ?_,gdef:=k3.gdef,old:=k3.old }
 .obtain⟨F,k,K,x⟩:=c.live i g b
  obtain⟨l,B,C,E⟩:=k3.live i g (k6 i g b);exact⟨l,by rw[oU (a.lt k)];exact B,C,Pa a g x E⟩
 .obtain⟨F,k,_⟩:=c.live i q b
  obtain⟨L,m,_⟩:=c.live j r p;rw[oU (a.lt k)]at s;rw[oU (a.lt m)]at t;exact k3.apart i j q r H I (k6 _ _ b) (k6 _ _ p) s t e
end Go.V
