/- A machine of abstract values for programs of the model, and its soundness, part 2. No condition. -/
import Derived.Test.YtkenagjlanhnmaaGreatDoorW01
import Derived.Laws.BytesString
import Derived.Lib.UnsafeStr
import Derived.Lib.LaidTab
import Derived.Lib.ItoaNum
import Derived.Scope
set_option linter.all false
set_option maxHeartbeats 8000000
namespace Go.V
open Go.RowKit (Below)
section
variable{P:Program}{w0:Base}{G:List Nat}{M:Imm}{ρ:Ren}{h:Heap}{w:World}{nid:Nat}
variable{n:Nat}
theorem YZ(a:n<=lim):fits .i64 (n:Int):=by
 rw[ou];unfold lim at a;simp[IntKind.min,IntKind.max,IntKind.signed,IntKind.bits];omega
variable{x d:D}{vx:Value}
def zCS(g:Sim w0 G M ρ h w){t ty:TypeId}(i:rel M ρ x vx)(a:o5 P t x h=some d):YV P w0 G M ρ nid w (Builtin.len_ #[t] ty #[vx]) d h:=by
 unfold o5 at a;split at a
 .split at a
  .rename_i c
   cases a;obtain⟨b,rfl,rfl,f⟩:=i;refine .pure g (v:=.int .i64 b.size) (by simp[Builtin.len_,zX c,goInt]) ?_;exact uJ (YZ f)
  .cases a
 .split at a
  .rename_i e c
   cases a;obtain⟨_,f,b,p,cap,⟨k,rfl,j⟩,_⟩:=i;exact .pure g (by simp[Builtin.len_,zX c];rfl) (uJ (YZ f))
  .cases a
 .split at a
  .rename_i e c
   cases a;obtain⟨_,f,l,cap,o,_,rfl,_⟩:=i;exact .pure g (by simp[Builtin.len_,zX c];rfl) (uJ (YZ f))
  .cases a
 .split at a
  .rename_i e c
   cases a;subst i;exact .pure g (by simp[Builtin.len_,zX c];rfl) (uJ (YZ jS))
  .cases a
 .split at a
  .rename_i e c
   cases a;subst i;exact .pure g (by simp[Builtin.len_,zX c];rfl) (uJ (YZ (n:=0) jS))
  .cases a
 .cases a
variable{y:D}{vy:Value}
def zCT(f:Sim w0 G M ρ h w){t ty:TypeId}(ats)(g:rel M ρ x vx)(i:rel M ρ y vy)(c:Jy x y=some d):YV P w0 G M ρ nid w (Builtin.min_ ats ty #[vx,vy]) d h:=by
 unfold Jy at c;split at c
 .rename_i k a k' b
  split at c
  .rename_i e;subst e
   cases c;obtain⟨rfl,j⟩:=g;obtain⟨rfl,l⟩:=i;refine .pure f (v:=.int k (if b<a then b else a)) (by simp[Builtin.min_,Builtin.min2]) (uJ ?_)
   split<;>assumption
  .cases c
 .cases c
def DL(f:rel M ρ x vx)(g:rel M ρ y vy)(c:Dc x y=some d):∃v,(Builtin.max2 vx vy).run P w=.ok v w/\rel M ρ d v:=by
 unfold Dc at c;split at c
 .rename_i k a k' b
  split at c
  .rename_i e;subst e
   cases c;obtain⟨rfl,h⟩:=f;obtain⟨rfl,i⟩:=g;refine⟨.int k (if b>a then b else a),by simp[Builtin.max2],uJ ?_⟩
   split<;>assumption
  .cases c
 .cases c
theorem Lu:∀{ys:List D}{vs:List Value}{x d:D}{b:Value},rel M ρ x b->wI M ρ ys vs->MU x ys=some d->∃v,(vs.foldlM Builtin.max2 b).run P w=.ok v w/\rel M ρ d v
 | [],vs,x,d,b,c,e,a=>by simp_all [wI,MU,uB]
 |y::ys,vs,x,d,b,c,e,a=>by
  obtain⟨v,i,rfl,h1,g⟩:=e;simp only[MU]at a;split at a
  .rename_i z h
   obtain⟨u,j,f⟩:=DL (P:=P) (w:=w) c h1 h;obtain⟨m,k,l⟩:=Lu f g a
   simp_all [List.foldlM_cons]
  .cases a
variable{vs:List Value}
def DQ(b:Sim w0 G M ρ h w){ty:TypeId}{ys:List D}(ats)(e:rel M ρ x vx)(f:wI M ρ ys vs)(c:MU x ys=some d):YV P w0 G M ρ nid w (Builtin.max_ ats ty (vx::vs).toArray) d h:=by
 obtain⟨v,h1,a⟩:=Lu (P:=P) (w:=w) e f c;exact .pure b (by simpa [Builtin.max_]using h1) a
variable{w':World}
def Sim.immLater(d:Sim w0 G M ρ h w)(q:Bel w.heap.size w w'){b:Nat}(f:w.heap.size<=b){c:Array Value}{e:TypeId}{p:Nat×Nat}(r:w'.heap[b]? =some (.cells c e p))(n:Nat):
  MLe M (mg M b 0 (c.toList.take n))/\Sim w0 G (mg M b 0 (c.toList.take n)) ρ h w':=by
 have s:∀o,M b o=none:=d.none_at f;have g:MLe M (mg M b 0 (c.toList.take n)):=kI λo _=>s o;have j:=d.world q;refine⟨g,{ below:=j.below,imm:=λb' o v a=> ?_,live:=λi t a=> ?_,apart:=d.apart,gdef:=j.gdef,old:=Zv d.old (d.nokeep f) }⟩
 .unfold mg at a
  split at a
  .rename_i k
   obtain⟨rfl,_,m⟩:=k;simp only[tO,yI]at a;split at a
   .simp[World.cell?,r];simpa using a
   .cases a
  .exact j.imm b' o v a
 .obtain⟨l,h1,m,h3⟩:=j.live i t a
  have u:=d.old_blk a h1;refine⟨l,h1,m,rt g (RLe.refl _) (λo x=> ?_) h3⟩
  grind [mg]
variable{M:Imm}{ρ:Ren}
theorem Xe:∀{ds:List D}{s:List UInt8}{vs:List Value},nL ds=some s->wI M ρ ds vs->∃ns:List Int,vs=ns.map (Value.int .u8)/\s=ns.map λn=>UInt8.ofNat n.toNat
 | [],s,vs,a,hr=>by simp_all [nL,uB,wI]
 |d::ds,s,vs,a,hr=>by
  obtain⟨v,e,rfl,h1,c⟩:=hr;simp only[nL]at a;split at a
  .rename_i k n
   split at a
   .split at a
    .rename_i f b
     cases a;obtain⟨ns,rfl,rfl⟩:=Xe b c;exact⟨n::ns,by rw[h1.1];rfl,rfl⟩
    .cases a
   .cases a
  .cases a
def DW{m:Int}(h:fits .u8 m):(((UInt8.ofNat m.toNat).toNat:Nat):Int)=m:=by
 have h1:=(ou .u8 m).1 h;simp[IntKind.min,IntKind.max,IntKind.signed,IntKind.bits]at h1;simp;omega
theorem Av:∀{ds:List D}{s:List UInt8}{j:Nat}{d:D}{m:Int},nL ds=some s->ds[j]? =some d->rel M ρ d (.int .u8 m)->fits .u8 m
 | [],s,j,d,m,_,h,_=>by simp at h
 |e::ds,s,0,d,m,a,h,hr=>by
  simp only[nL]at a
  grind [rel]
 |e::ds,s,j+1,d,m,a,h,hr=>by
  simp only[nL]at a;split at a
  .split at a
   .split at a
    .rename_i c b
     exact Av b h hr
    .cases a
   .cases a
  .cases a
theorem UR:∀(ns:List Int)(b:ByteArray),(ns.foldl (λr n=>r.push (UInt8.ofNat n.toNat)) b).data.toList=b.data.toList++ns.map λn=>UInt8.ofNat n.toNat
 | [],b=>by simp
 |n::ns,b=>by
  rw[List.foldl_cons,UR ns];simp[ByteArray.push]
variable{u T:TypeId}
theorem MI(F:Sim w0 G M ρ h w)(j:rel M ρ x vx)(a:ng P u T x=some d):YV P w0 G M ρ nid w (Go.convert u T vx) d h:=by
 unfold ng at a;split at a
 .rename_i k n
  split at a
  .rename_i k0 g
   split at a
   .rename_i k' f
    cases a;simp only[rel]at j;obtain⟨rfl,_⟩:=j;exact .pure F (v:=.int k' (k'.wrap n)) (by simp[Go.convert,zX g,zX f,Conv.intToInt]) (uJ (pD _ _))
   .cases a
  .cases a
 .rename_i s
  split at a
  .rename_i g
   split at a
   .rename_i f
    cases a;have O:=j;simp only[rel]at j;obtain⟨b,rfl,_,_⟩:=j;exact .pure F (v:=.string b) (by simp[Go.convert,zX g,zX f]) O
   .rename_i e f
    split at a
    .rename_i t
     cases a;simp only[rel]at j;obtain⟨b,rfl,rfl,J⟩:=j
     let cap:=grownCap w b.size 0 e
     let c:Array Value:=(b.data.map λx=>Value.int .u8 x.toNat)++Array.replicate (cap-b.size) (.int .u8 0)
     let R:=(w.drew.alloc (.cells c e)).freeze ⟨w.heap.size,c.size,none⟩ 1
     have o:b.size=b.data.toList.length:=by rw[yX];rfl
     have D:b.size<=cap:=WB w b.size 0 e;have l:(Go.convert u T (.string b)).run P w=.ok (.slice (some ⟨w.heap.size,0,none⟩) b.size cap) R:=by
      have h1:(Go.convert u T (.string b)).run P w=(Conv.stringToBytes e b).run P w:=by
       simp[Go.convert,zX g,zX f,zX t]
      have K:(w.drew.alloc (.cells c e)).shape? w.heap.size=some (e,c.size):=by
       have:(w.drew.alloc (.cells c e)).heap[w.heap.size]? =some (.cells c e (0,0)):=by
        show(w.heap.push _)[w.heap.size]? =_;simp
       unfold World.shape?;rw[this]
      rw[h1];simp only[Conv.stringToBytes,zz,run_choose,Question.forced,zf,yr,zd,newRow,Z6,kH,World.drew_eq,yU,markStringish,run_shape];rw[show((Question.appendCap b.size 0 e).cut (w.tape w.drawn (Question.appendCap b.size 0 e)))=cap from rfl]
      rw[show(w.drew.heap.size)=w.heap.size from rfl]
      rw[show((b.data.map λx=>Value.int .u8 x.toNat)++Array.replicate (cap-b.size) (.int .u8 0))=c from rfl,K]
      rfl
     have z:(w.heap.push (Go.Obj.cells c e))[w.heap.size]? =some (.cells c e (0,0)):=jS;have y:R.heap[w.heap.size]? =some (.cells c e (c.size,c.size+1)):=by
      show((w.heap.push (Go.Obj.cells c e)).modify w.heap.size _)[w.heap.size]? =_;rw[rZ,ip rfl,z];rfl
     have C:Bel w.heap.size w R:=⟨⟨rfl,rfl,rfl,by show _<=((w.heap.push (Go.Obj.cells c e)).modify w.heap.size _).size;simp,λk hk=>by
      show((w.heap.push (Go.Obj.cells c e)).modify w.heap.size _)[k]? =_;rw[rZ,iq ow,Array.getElem?_push,iq ow]⟩,Nat.le_succ _⟩
     obtain⟨k1,k2⟩:=F.immLater C (zD _) y b.size;refine⟨_,_,_,ρ,l,k1,RLe.refl _,λ_ _=>rfl,k2,?_⟩;simp only[rel];refine⟨ow,by simpa using J,w.heap.size,0,cap,by rw[zH,<-o];exact GT.mk _ _ _ _,by rw[zH,<-o];exact D,nS λi x j=> ?_,trivial⟩;simp only[zh,ze]at j;obtain⟨q,W,rfl⟩:=j;refine⟨rfl,?_⟩;simp only[kA,zT];refine⟨rfl,.int .u8 q.toNat,?_,?_⟩
     .have:=U4 (M:=M) (b:=w.heap.size) (p:=0) (vs:=c.toList.take b.size) (i:=i) (v:=.int .u8 q.toNat) (by
       have E:i<b.size:=by rw[o];exact(zK.1 W).1
       rw[yI,ip E];simp only[c,ml,uX];rw[yi (by simp;exact E),zh,W];rfl)
      simpa using this
     .refine uJ ?_
      rw[ou];have:=q.toNat_lt;simp[IntKind.min,IntKind.max,IntKind.signed,IntKind.bits];omega
    .cases a
   .cases a
  .cases a
 .rename_i sz xs tk
  split at a
  .rename_i e g
   split at a
   .rename_i t
    split at a
    .rename_i f
     split at a
     .rename_i N
      subst N;split at a
      .rename_i s H
       cases a;simp only[rel]at j;obtain⟨_,V,b,p,cap,⟨Q,rfl,L⟩,I,hE,_⟩:=j;obtain⟨Z,U⟩:=kC hE;have B:∀(ns:List Int),s=ns.map (λn=>UInt8.ofNat n.toNat)->ns.length<=lim->(Go.loadCells ⟨b,p,Q⟩ xs.length).run P w=.ok (ns.map (Value.int .u8)).toArray w->YV P w0 G M ρ nid w (Go.convert u T (.slice (some ⟨b,p,Q⟩) xs.length cap)) (.str s) h:=λns m J l=>by
        have A:=run_bytesToString (P:=P) w ⟨b,p,Q⟩ xs.length cap ns l;refine .pure F (v:=.string (ns.foldl (λr n=>r.push (UInt8.ofNat n.toNat)) ByteArray.empty)) ?_ ?_
        .rw[run_convert_bytes_string w u T e _ _ _ g t f,A]
        .simp only[rel]
         exact⟨_,rfl,by rw[UR,m];rfl,by rw[m,zH];exact J⟩
       rcases L with rfl|rfl
       case inr=>
        obtain rfl:xs= []:=ye ow;simp only[mJ,nL,uB]at H;subst H;exact B [] rfl jS (by simp[Go.loadCells,loadCellsFrom])
       obtain⟨vs,X,Y,S,_⟩:=(F.holds Z).loadCells (P:=P) (off:=0) (n:=xs.length) ow;rw[wS,yO ow]at S;obtain⟨ns,rfl,m⟩:=Xe H S;rw[zH]at X;exact B ns m ow Y
      .cases a
     .cases a
    .cases a
   .cases a
  .cases a
 .cases a
def GX(o:Sim w0 G M ρ h w){m dst:TypeId}(s:rel M ρ x vx)(a:ZH P m dst x h=some d):YV P w0 G M ρ nid w (Go.convert m dst vx) d h:=by
 unfold ZH at a;split at a
 .rename_i id off
  split at a
  .have k:=s
   obtain⟨l,A,rfl⟩:=s;unfold Gy at a;split at a
   .rename_i u full cs z
    split at a
    .obtain⟨E,v,_,hM,c,D,C,B,y,n,r,g⟩:=o.live id _ z
     rw[A]at v;cases v;have q:=g rfl;have i:w.shape? l.blk=some (u,cs.length):=by simp[World.shape?,C,r,q]
     split at a
     .rename_i t e
      split at a
      .rename_i b
       split at a
       .rename_i j p
        split at a
        .rename_i f
         simp only[zF,zP]at f;cases a;exact .pure o (Go.Lib.run_to_unsafe (P:=P) (w:=w) ⟨l.blk,0,none⟩ e b p f.1 i f.2) k
        .cases a
       .cases a
      .cases a
     .rename_i e
      split at a
      .rename_i t b
       split at a
       .rename_i j p
        split at a
        .rename_i f
         cases a;exact .pure o (Go.Lib.run_from_unsafe (P:=P) (w:=w) ⟨l.blk,0,none⟩ e b p i f) k
        .cases a
       .cases a
      .cases a
     .cases a
    .cases a
   .cases a
  .cases a
 .exact MI o s a
theorem Xd:∀{ds:List D}{s:List UInt8},nL ds=some s->s.length=ds.length
 | [],s,h=>by grind [nL]
 |d::ds,s,h=>by
  simp only[nL]at h;split at h
  .split at h
   .split at h
    .rename_i b a
     cases h;rw[zu,zu,Xd a]
    .cases h
   .cases h
  .cases h
variable{id:Nat}{ob:Obj}{l:Loc}
def Sim.drop(a:Sim w0 G M ρ h w)(r:h.at' id=some ob)(t:ρ id=some l)(y:w'.os=w.os)(z:w'.tape=w.tape)(A:w'.output=w.output)(n:w'.heap.size=w.heap.size)(k:∀b,b≠l.blk->w'.heap[b]? =w.heap[b]?)(hM:∀o,M l.blk o=none)(E:∀d,w.heap[l.blk]? ≠some (.deferred d))(m:w.drawn<=w'.drawn:=by exact zD _):
  Sim w0 G M ρ (h.del id) w':=by
 obtain⟨F,p,u,D⟩:=a.live id ob r;rw[t]at p;cases p;refine { below:=⟨by rw[y];exact a.below.os,by rw[z];exact a.below.tape,by rw[A];exact a.below.output,by rw[n];exact a.below.size,λb s=>by rw[k b λe=>u (e▸s)];exact a.below.block b s,zY a.below.drawn m⟩,imm:=λb o v e=> ?_,live:=λi g e=> ?_,apart:=λi j g C f B e1 e2=> ?_,gdef:=λb x=> ?_,old:=a.old }
 .have c:b≠l.blk:=λq=>by subst q;rw[hM o]at e;cases e
  have:=a.imm b o v e;rw[<-this];exact wi (w:=w) (k b c)
 .simp only[Heap.del]at e
  split at e
  .cases e
  .rename_i c
   obtain⟨f,k1,k2,k3⟩:=a.live i g e;exact⟨f,k1,k2,sI (k _ λq=>c (a.apart i id g ob f l e r k1 t q)) k3⟩
 .simp only[Heap.del]at e1 e2
  split at e1
  .cases e1
  .split at e2
   .cases e2
   .exact a.apart i j g C f B e1 e2
 .obtain⟨k1,k2⟩:=a.gdef b x
  grind
variable{h':Heap}
theorem ML(J:Sim w0 G M ρ h w){t u ty e:TypeId}{n:Int}(C:ρ id=some l)(I:P.underlying t=some (.pointer e))(U:fits .i64 n)(g:XS P e id n h=some (d,h')):YV P w0 G M ρ nid w (Builtin.unsafeString_ #[t,u] ty #[.pointer (some ⟨l.blk,0,none⟩),.int .i64 n]) d h':=by
 unfold XS at g;split at g
 .rename_i e2 full cs B
  split at g
  .rename_i N
   simp only[zF,zP]at N;obtain⟨⟨⟨⟨A,x⟩,Y⟩,Z⟩,E⟩:=N;subst A;split at g
   .rename_i s i
    cases g;obtain⟨l',L,g2,hM,c,S,Q,W,O,y,K,_⟩:=J.live id _ B;rw[C]at L;cases L;subst K;have r:s.length=n.toNat:=by rw[Xd i,yK];omega
    obtain⟨vs,q1,q2,R,_,q5⟩:=(J.trow B C).loadCells (P:=P) (off:=0) (n:=n.toNat) ow;obtain⟨ns,rfl,H⟩:=Xe i R;have k:∀m∈ns,fits .u8 m:=λm X=>by
     obtain⟨j,V,rfl⟩:=zy.1 X;have o:j<(cs.take n.toNat).length:=by grind
     obtain⟨v,r1,r2⟩:=sJ R j (cs.take n.toNat)[j] (zB o);rw[zh,zB V]at r1;cases r1;exact Av i (zB o) r2
    have T:n<=9223372036854775807:=by simp_all [ou]
    have a:=Go.Lib.run_unsafeString_row (P:=P) w t u ty S I x l.blk c.size (by simp[World.shape?,Q]) s (λq=>by rw[q]at r;simp at r;omega) ow ow (λj b z=>by
     rw[H,zh]at z;obtain⟨m,p,D⟩:=ze.1 z;have:=q5 j (.int .u8 m) (by rw[zh,p];rfl);rw[tp];rw[this,<-D,DW (k m (zj p))])
    have F:(s.length:Int)=n:=ow;rw[F]at a;obtain⟨f,hf⟩:∃f,w.freeze ⟨l.blk,0,none⟩ s.length= { w with heap:=w.heap.modify l.blk f } :=by
     unfold World.freeze;split
     all_goals grind
    rw[hf]at a;refine⟨_,_,M,ρ,a,MLe.refl _,RLe.refl _,λ_ _=>rfl,J.drop B C rfl rfl rfl jS (λb z=> ?_) hM (λdd q=>by rw[Q]at q;cases q),?_⟩
    all_goals grind [rel]
   .cases g
  .cases g
 .cases g
theorem RH(b:Sim w0 G M ρ h w){t u ty e:TypeId}(a:P.underlying t=some (.pointer e)):YV P w0 G M ρ nid w (Builtin.unsafeString_ #[t,u] ty #[.pointer none,.int .i64 0]) (.str []) h:=by
 refine .pure b (v:=.string ⟨#[]⟩) ?_ (by simp only[rel];exact⟨⟨#[]⟩,rfl,rfl,jD⟩);rfl
def RI(b:Sim w0 G M ρ h w){t u ty:TypeId}(c:rel M ρ x vx)(e:rel M ρ y vy)(a:jU P t x y h=some (d,h')):YV P w0 G M ρ nid w (Builtin.unsafeString_ #[t,u] ty #[vx,vy]) d h':=by
 unfold jU at a;split at a
 all_goals grind [rel,ML,RH]
def Yx(t u ty e:TypeId)(v:P.underlying t=some (.slice e)){k:IntKind}(y:P.underlying u=some (.int k)){i:TypeInfo}{z:Value}(g:P.info? e=some i)(A:i.zero=some z)(m:Nat)(h:0<m)(n:i.size≠0)(a:m<=lim)(r:m*i.bytes<=lim):
  (Builtin.append_ #[t,u] ty #[.slice none 0 0,.int .i64 (m:Int)]).run P w=.ok (.slice (some ⟨w.heap.size,0,none⟩) m (grownCap w m 0 e))
   (w.drew.alloc (.cells (Builtin.zeroCells z.cells m++Builtin.zeroCells z.cells (grownCap w m 0 e-m)) e)):=by
 have c:¬(9223372036854775807<(m:Int)):=by unfold lim at a;omega
 have s:=growslice_fits (need:=m) (old:=0) (bytes:=i.bytes) h r;have b:¬(281474976710656<Builtin.nextslicecap m 0*i.bytes):=ow;have o:(sizeOf e).run P w=.ok i.size w:=by rw[run_sizeOf _ g];simp[Program.cellsOf,g]
 have p:IntKind.i64.wrap (m:Int)=(m:Int):=YZ a;have d:¬((m:Int)<0):=ow;have f:¬(281474976710656<(m:Int)*(i.bytes:Int)):=by
  have:((m*i.bytes:Nat):Int)<=(lim:Int):=by exact_mod_cast r
  rw[mo]at this;generalize(m:Int)*(i.bytes:Int)=x at this⊢;unfold lim at this;omega
 have l:¬(m*i.size=0):=λq=>by
  rcases Nat.mul_eq_zero.1 q with q|q<;>omega
 have j:¬m=0:=ow;simp[Builtin.append_,zX v,zX y,o,typeInfo,zeroValue,g,A,asInt,asIntOf,p,d,f,l,j,c,b,n,Question.forced,newRow,grownCap,Builtin.firstCells]
def MF(W:Sim w0 G M ρ h w)(K:ρ nid=none){mu:Bool}{t u ty:TypeId}{s x d:D}(O:rel M ρ s vy)(hx:rel M ρ x vx)
  (a:me P mu nid t u s x h=some (d,h')):YV P w0 G M ρ nid w (Builtin.append_ #[t,u] ty #[vy,vx]) d h':=by
 unfold me at a;split at a
 .rename_i kk hu
  split at a
  .rename_i e Y
   split at a
   .split at a
    .rename_i k0 n
     split at a
     .split at a
      .rename_i z hz
       split at a
       .rename_i c
        simp only[zF,zP]at c;obtain⟨⟨⟨⟨⟨⟨Z,R⟩,C⟩,y⟩,ad⟩,E⟩,f⟩:=c;cases a;obtain⟨i,b,l,S,v,Q⟩:=oO (P:=P) (M:=M) (ρ:=ρ) (w:=w) hz;subst O;obtain⟨rfl,_⟩:=hx;have A:=rG v;have B:=pJ v R;have U:i.size=szT P e:=by simp[szT,Program.cellsOf,l]
        have I:i.bytes=wr P e:=by simp[wr,Program.bytesOf,l]
        have L:(n:Int)=((n.toNat:Nat):Int):=ow;generalize hm:n.toNat=m at *
        have J:0<m:=ow;subst L;have r:=Yx (P:=P) (w:=w) t u ty e (rL Y) hu l S m J ow f (by rw[I];exact E);have H:=WB w m 0 e;have g:b.cells.size=szT P e:=by have:=qL A;rw[C]at this;simpa using this
        have V:(ma m z.cells).length=m*szT P e:=by rw[ma,uE,C]
        have N:=aa A m;have X:Builtin.zeroCells b.cells m=(Array.range (m*szT P e)).map (b.cells[· %b.cells.size]!):=by unfold Builtin.zeroCells;rw[g]
        have F:(Builtin.zeroCells b.cells m++Builtin.zeroCells b.cells (grownCap w m 0 e-m)).size=grownCap w m 0 e*szT P e:=by
         rw[Array.size_append,cW,cW,g,<-qy];congr 1;omega
        have o:(ma m z.cells).length<=(Builtin.zeroCells b.cells m++Builtin.zeroCells b.cells (grownCap w m 0 e-m)).size:=by grind
        have hr:wI M ρ (ma m z.cells) ((Builtin.zeroCells b.cells m++Builtin.zeroCells b.cells (grownCap w m 0 e-m)).toList.take (ma m z.cells).length):=by grind
        have k:m<=grownCap w m 0 e/\grownCap w m 0 e<=maxLen:=⟨H,grownCap_le_maxLen w m 0 e (by unfold maxLen;unfold lim at f;omega)⟩;have j:∀T,Sim w0 G M (mD ρ nid ⟨w.drew.heap.size,0,(Builtin.zeroCells b.cells m++Builtin.zeroCells b.cells (grownCap w m 0 e-m)).size⟩) (h.new nid T) (w.drew.alloc (.cells (Builtin.zeroCells b.cells m++Builtin.zeroCells b.cells (grownCap w m 0 e-m)) e))->
          YV P w0 G M ρ nid w (Builtin.append_ #[t,u] ty #[.slice none 0 0,.int .i64 (m:Int)]) (.rs nid (szT P e) 0 m) (h.new nid T):=λT p=>by
         refine⟨_,_,M,_,r,MLe.refl _,tM K,λi l=>by simp[mD,jI l],p,?_⟩;exact⟨y,f,_,grownCap w m 0 e,0,by unfold mD;rw[ip rfl],rfl,k,by show 0+grownCap w m 0 e*szT P e<=(Builtin.zeroCells b.cells m++Builtin.zeroCells b.cells (grownCap w m 0 e-m)).size;rw[F,yP];exact zD _,.inr rfl⟩
        rcases Yf P e (ma m z.cells)with q|q
        .rw[q]
         exact j _ (W.drew.newRow K e o hr (jH B _))
        .rw[q]
         exact j _ (W.drew.newTRow K e false o (λq=>by cases q) hr (jH B _))
       .cases a
      .cases a
     .cases a
    .cases a
   .cases a
  .cases a
 .cases a
variable{t:TypeId}
def RG(N:Sim w0 G M ρ h w)(L:ρ nid=none){mu:Bool}{l c d:D}(W:rel M ρ l vx)(T:rel M ρ c vy)(j:uk P mu nid t l c h=some (d,h')):
  YV P w0 G M ρ nid w (Instr.makeSlice t vx vy) d h':=by
 unfold uk at j;split at j
 .rename_i e k1 n k2 n' U
  obtain⟨rfl,_⟩:=W;obtain⟨rfl,_⟩:=T;split at j
  .rename_i z hz
   obtain⟨i,p,B,ad,v,s⟩:=oO (P:=P) (M:=M) (ρ:=ρ) (w:=w) hz;simp only at j;split at j
   .rename_i g
    simp only[zF,zP]at g;obtain⟨⟨⟨⟨⟨⟨K,r⟩,o⟩,X⟩,H⟩,S⟩,b⟩:=g;subst H;have J:=rG v;have A:=pJ v K;have a:=aa J n.toNat;rw[r]at a;have I:(((Array.range (n.toNat*szT P e)).map (p.cells[· %p.cells.size]!)):Array Value).size=n.toNat*szT P e:=jS;have k:(ma n.toNat z.cells).length=n.toNat*szT P e:=by rw[ma,uE,r]
    have Y:IntKind.i64.wrap n=n:=by have:=YZ (n:=n.toNat) b;rw[show((n.toNat:Nat):Int)=n by omega]at this;exact this
    have m:(Instr.makeSlice t (.int k1 n) (.int k2 n)).run P w=.ok (.slice (some ⟨w.heap.size,0,none⟩) n.toNat n.toNat) (w.alloc (.cells ((Array.range (n.toNat*szT P e)).map (p.cells[· %p.cells.size]!)) e)):=by
     have E:(typeInfo e).run P w=.ok i w:=by simp[typeInfo,B]
     have V:i.bytes=wr P e:=by simp[wr,Program.bytesOf,B]
     have R:¬((i.bytes:Int)*n>2^48):=by grind [wr,lim]
     have q:(Instr.makeSlice t (.int k1 n) (.int k2 n)).run P w=.ok (.slice (some ⟨w.heap.size,0,none⟩) n.toNat n.toNat) (w.alloc (.cells ((Array.range (n.toNat*szT P e)).map (p.cells[· %p.cells.size]!)) e)):=by
      unfold Instr.makeSlice;simp only[zz,zX (rL U),zd,asInt,asIntOf,yU,E,Y];have F:((decide (n<0)||decide ((i.bytes:Int)*n>2^48))||decide (n<0)||decide (n>n))=false:=by grind
      simp only[F,zf,yr,zz,run_askRoom,zd,wB (P:=P) (w:=w) (t:=e) ow];by_cases y:n.toNat*szT P e=0
      .have C:∀f:Nat->Value,(Array.range 0).map f= #[]:=λf=>by simp
       simp only[y,qK,zz,yU,zd,C,newRow,Z6,kH]
      .simp only[y,yr,zz,s,yU,zd,newRow,Z6,kH]
     exact q
    split at j
    .cases j
     have u:=N.newRow L e (ds:=ma n.toNat z.cells) (c:=(Array.range (n.toNat*szT P e)).map (p.cells[· %p.cells.size]!)) ow (by rw[k,yO jS];exact a) (jH A _);refine⟨_,_,M,_,m,MLe.refl _,tM L,λi B=>by simp[mD,jI B],u,?_⟩;exact⟨o,b,_,n.toNat,0,by simp[mD];rfl,rfl,⟨zD _,by unfold maxLen;unfold lim at b;omega⟩,jS,.inr rfl⟩
    .cases j
     obtain⟨O,Q,g3⟩:=N.newImmRow (n:=n.toNat) e o b k a (jH A _);refine⟨_,_,_,ρ,m,O,RLe.refl _,λ_ _=>rfl,Q,?_⟩
     have:wP (szT P e) n.toNat (ma n.toNat z.cells)=List.replicate n.toNat z.cells:=by
      have:=mX (szT P e) (List.replicate n.toNat z.cells) [] 0 (λx Z=>by rw[(List.mem_replicate.1 Z).2,r]);simpa [wP,ma]using this
     grind
   .cases j
  .cases j
 .cases j
def GW(g:Sim w0 G M ρ h w){t ty:TypeId}(s:rel M ρ x vx)(a:lW P t x h=some h'):
  ∃J,(Builtin.clear_ #[t] ty #[vx]).run P w=.ok (.tuple #[]) J/\Sim w0 G M ρ h' J:=by
 unfold lW at a;split at a
 .split at a
  .rename_i e c
   cases a;subst s;exact⟨w,by simp[Builtin.clear_,zX c],g⟩
  .cases a
 .rename_i sz xs tk
  split at a
  .rename_i e c
   split at a
   .rename_i D
    cases a;obtain⟨_,_,b,p,cap,⟨sp,rfl,X⟩,_⟩:=s;rw[D];exact⟨w,by simp[Builtin.clear_,zX c],g⟩
   .cases a
  .cases a
 .rename_i id sz off n
  split at a
  .cases a
  .rename_i e T
   have c:=rL T;split at a
   .cases a
   .rename_i z Y
    obtain⟨h0,Q,l,cap,o,r,rfl,N,C,ho⟩:=s;split at a
    .rename_i R
     cases a;subst R;exact⟨w,by simp[Builtin.clear_,zX c],g⟩
    .rename_i R
     split at a
     .rename_i L
      simp only[zF,zP]at L;obtain⟨I,F⟩:=L;split at a
      .rename_i cs q
       split at a
       .rename_i W
        obtain⟨i,u,U,V,k,j⟩:=oO (M:=M) (ρ:=ρ) (w:=w) Y;obtain rfl:o=off:=ow;have m:=rG k;have E:=pJ k I;have f:=aa m n;have O:(ma n z.cells).length=n*sz:=by rw[ma,uE,F]
        obtain⟨J,g1,g2⟩:=g.storeRow (P:=P) (off:=o) q r f (jH E n) ow;have H:u.cells.size=z.cells.length:=by have:=qL m;simpa using this
        have hq:(Builtin.zeroCells u.cells n).toList=((Array.range (n*z.cells.length)).map (u.cells[· %u.cells.size]!)).toList:=by
         unfold Builtin.zeroCells;rw[<-H]
        simp only[Builtin.clear_,t9,wJ,zz,zX c,zd,j]
        simp_all
       .cases a
      .cases a
     .cases a
 .rename_i id
  split at a
  .rename_i kt et c
   split at a
   .rename_i es q
    cases a;obtain⟨l,r,rfl⟩:=s;obtain⟨l',h1,A,Z,K,y,h3⟩:=g.live id _ q;rw[r]at h1;cases h1;have B:l.blk<w.heap.size:=by grind
    refine⟨{ w with heap:=w.heap.setIfInBounds l.blk (.map #[] K) },?_,?_⟩
    .simp[Builtin.clear_,zX c,getObj,setObj,Sem.run,y]
    .refine g.put q r rfl rfl rfl jS (λb S=>by simp only[tG];rw[iq (λe=>S e.symm)]) (λo v e=> ?_) ⟨_,y,λd=>by simp⟩ ⟨#[],K,by simp[B],by simp[pi]⟩
     have:=g.imm _ _ _ e;simp[World.cell?,y]at this
   .cases a
  .cases a
 .cases a
end
section
variable{P:Program}{w0:Base}{G:List Nat}{M:Imm}{ρ:Ren}{h:Heap}{w:World}{nid:Nat}
theorem lM{d k : Nat}{j : Bool}(G : ∀(t : TypeId)(ks : List Kd)(ag : Bool), pS P d t = some ks -> agT P t = some ag -> ∀(s : D)(I : Value), yz ag s = true -> rel M ρ s I ->
      (eqK ks s.cells s.cells).isSome = true -> (Instr.checkKey j (d + k) t I).run P w =.ok () w) :
    ∀(fs : List Field)(off n : Nat)(ks : List Kd), WH (pS P d) P.cellsOf fs off n = some ks -> ∀(as : List D)(xs : Array Value), wI M ρ as xs.toList -> as.all D.flat = true -> (eqK ks (as.drop off) (as.drop off)).isSome = true ->
      (forIn (m := Sem) fs PUnit.unit λf _ => do
        if f.name ≠ "_" then do
          Instr.checkKey j (d + k) f.type (<- part f.type xs f.offset)
          pure (ForInStep.yield PUnit.unit)
        else pure (ForInStep.yield PUnit.unit)).run P w =.ok PUnit.unit w
  | [], _, _, _, _, _, _, _, _, _ => by simp
  | f :: fs, off, n, ks, g, as, xs, x, u, Q => by
    simp only [WH]at g;split at g
    · rename_i b
      simp only [zF, dJ, ne_eq, qj]at b;obtain ⟨⟨A, o⟩, B⟩ := b;split at g
      · rename_i h a
        split at g
        · rename_i c
          simp only [qj]at c;simp only [ze]at g;obtain ⟨T, y, rfl⟩ := g;obtain ⟨r, hr⟩ := u9.1 Q;obtain ⟨r1, r2, h1, F, _⟩ := jF hr;obtain ⟨ag, e⟩ : ∃ ag, agT P f.type = some ag := by
            cases hd : d with
            | zero => rw [hd]at a; simp [pS]at a
            | succ V =>
              rw [hd]at a;unfold pS at a;unfold agT;cases hu : P.underlying f.type with
              | none => rw [hu]at a; cases a
              | some td => cases td <;> simp
          have R := (nN h1).1;have E : szT P f.type = h.length := c.symm;have cell : ∃ v i, (part f.type xs f.offset).run P w =.ok v w /\ rel M ρ i v /\ yz ag i = true /\ i.cells = (as.drop off).take h.length := by
            rw [o];cases ag with
            | true =>
              have z : off + h.length <= as.length := by grind
              obtain ⟨v, J, K⟩ := dq (w := w) e x u (off := off) (d :=.agg ((as.drop off).take h.length)) (by simp only [yQ, qK, E]; rw [iq (by rw [c]; exact B), ip z]);exact ⟨v, _, J, K, rfl, rfl⟩
            | false =>
              obtain ⟨H, rfl⟩ := l7 a e;have l : off < as.length := by grind
              have p : (as.drop off).take [H].length = [as[off]] := by rw [wX, z8 l, pz, pc]
              obtain ⟨v, J, K⟩ := dq (w := w) e x u (off := off) (d := as[off]) (by simp [yQ, l]);have S : yz false as[off] = true /\ as[off].cells = [as[off]] := by
                rw [p]at h1;generalize as[off] = q at h1 ⊢;cases H <;> cases q <;> simp [eqK, yz, D.cells]at h1 ⊢
              grind
          obtain ⟨v, i, U, L, N, O⟩ := cell;have W := G f.type h ag a e i v N L (by rw [O, h1]; rfl);have C := lM G fs (off + h.length) n T y as xs x u (by rw [uM]at F; rw [F]; rfl)
          simp_all [List.forIn_cons]
        · cases g
      · cases g
    · cases g
theorem fZ(c : Bool)(k : Nat) : ∀(d : Nat)(t : TypeId)(ks : List Kd)(ag : Bool), pS P d t = some ks -> agT P t = some ag -> ∀(b : D)(j : Value), yz ag b = true -> rel M ρ b j ->
      (eqK ks b.cells b.cells).isSome = true -> (Instr.checkKey c (d + k) t j).run P w =.ok () w
  | 0, t, ks, ag, h, _, _, _, _, _, _ => by simp [pS]at h
  | d + 1, t, ks, ag, h, a, b, j, o, n, m => by
    rw [show d + 1 + k = (d + k) + 1 by omega];unfold pS at h;unfold agT at a;cases hu : P.underlying t with
    | none => rw [hu]at h; cases h
    | some td =>
      rw [hu]at h a;cases td <;> simp only at h a <;> (try (cases h; done))
      all_goals first
        | (injection a with a; subst a
           simp only [Instr.checkKey, zz, zX hu, zd];rfl)
        | skip
      rename_i fs;injection a with a; subst a;split at h
      · cases h
      · cases b <;> simp [yz]at o
        rename_i as;obtain ⟨xs, rfl, g, f⟩ := n;have := lM (λp i e h1 l => fZ c k d p i e h1 l) fs.toList 0 _ ks h as xs g f (by simpa [D.cells]using m);simp only [Instr.checkKey, zz, zX hu, zd]
        simp_all [Array.forIn_toList]
theorem lO:∀{ks:List Kd}{as e:List D}{xs ys:List Value}{n:Nat},eqK ks as e=some true->wI M ρ as xs->wI M ρ e ys->(xs.zip ys).all (λp=>Instr.sameBits n p.1 p.2)=true
 | [],[],[],xs,ys,n,_,a,c=>by simp only[wI]at a c;subst a c;rfl
 |.b::ks,.bool x::as,.bool y::e,xs,ys,n,h,a,c=>by
  simp only[eqK,ze]at h;obtain⟨q,h,d⟩:=h;simp only[zF]at d;simp only[wI,rel]at a c;obtain⟨_,f,rfl,rfl,a⟩:=a;obtain⟨_,g,rfl,rfl,c⟩:=c;rw[d.2]at h;simp only[oT,um,zF];exact⟨by cases n<;>simpa [Instr.sameBits]using d.1,lO h a c⟩
 |.i::ks,.int k x::as,.int k' y::e,xs,ys,n,h,a,c=>by
  simp only[eqK]at h;split at h
  .rename_i m;subst m
   simp only[ze]at h;obtain⟨q,h,d⟩:=h;simp only[zF]at d;simp only[wI,rel]at a c;obtain⟨_,f,rfl,⟨rfl,_⟩,a⟩:=a;obtain⟨_,g,rfl,⟨rfl,_⟩,c⟩:=c;rw[d.2]at h;simp only[oT,um,zF];exact⟨by cases n<;>simpa [Instr.sameBits]using d.1,lO h a c⟩
  .cases h
 |.s::ks,.str x::as,.str y::e,xs,ys,n,h,a,c=>by
  simp only[eqK,ze]at h;obtain⟨q,h,d⟩:=h;simp only[zF]at d;simp only[wI,rel]at a c;obtain⟨_,f,rfl,⟨l,rfl,rfl,_⟩,a⟩:=a;obtain⟨_,g,rfl,⟨j,rfl,rfl,_⟩,c⟩:=c;rw[d.2]at h;simp only[oT,um,zF];refine⟨?_,lO h a c⟩
  have:(l==j)=true:=by rw[beq_toListBytes,uV,uV];exact d.1
  cases n<;>simpa [Instr.sameBits]using this
variable{t:TypeId}
def WG{ag:Bool}{ks:List Kd}(a:LH P t=some (ag,ks)):pS P 8 t=some ks/\agT P t=some ag:=by grind [LH]
def Pt(ks:List Kd)(M:Imm)(ρ:Ren)(k:D)(es:List (D×D))(i0:Nat)(o:Option (Nat×Value)):Prop:=
 (o=none/\kQ ks k es=some none/\∀v,LY ks k v es=some (es++ [(k,v)]))\/
 (∃i k' d u,o=some (i0+i,u)/\es[i]? =some (k',d)/\rel M ρ d u/\eqK ks k.cells k'.cells=some true/\kQ ks k es=some (some d)/\∀v,LY ks k v es=some (es.set i (k,v)))
def Pt.later{ks:List Kd}{k k' d:D}{a:List (D×D)}{e:Nat}{o:Option (Nat×Value)}(h:Pt ks M ρ k a (e+1) o)(c:eqK ks k.cells k'.cells=some false):Pt ks M ρ k ((k',d)::a) e o:=by
 rcases h with⟨h1,b,h3⟩ | ⟨i,k2,f,u,h1,b,h3,g,h5,j⟩
 .grind [kQ,LY,Pt,eqK]
 .exact .inr ⟨i+1,k2,f,u,by rw[h1];congr 2;omega,by simpa using b,h3,g,by simp[kQ,c,h5],λv=>by simp[LY,c,j]⟩
variable{vx:Value}
theorem Ww{td:TypeDesc}{ks:List Kd}{k:D}(a:∀(k':D)(j:Value)(b:Bool),rel M ρ k' j->yz false k'=true->eqK ks k.cells k'.cells=some b->Instr.sameNow td vx j=some b):
  ∀(f:List (D×D))(l:List MapEntry)(g:Nat),pi M ρ f l->(∀e∈f,yz false e.1=true)->(kQ ks k f).isSome=true->∃o,Instr.findNow td vx l g=some o/\Pt ks M ρ k f g o
 | [],l,g,hr,_,_=>by simp only[pi]at hr;subst hr;exact⟨none,rfl,.inl ⟨rfl,rfl,λv=>rfl⟩⟩
 |(k',d)::f,l,g,hr,i,h=>by
  obtain⟨e,m,rfl,h1,p,h3⟩:=hr;simp only[kQ]at h;cases c:eqK ks k.cells k'.cells with
  |none=>rw[c]at h;cases h
  |some b=>
   have n:=a k' e.key b h1 (i (k',d) jS) c;cases b with
   |true=>exact⟨some (g,e.val),by simp[Instr.findNow,n],.inr ⟨0,k',d,e.val,rfl,rfl,p,c,by simp[kQ,c],λv=>by simp[LY,c]⟩⟩
   |false=>
    rw[c]at h;obtain⟨o,o1,o2⟩:=Ww a f m (g+1) h3 (λe q=>i e (by simp[q])) h;exact⟨o,by simp[Instr.findNow,n,o1],o2.later c⟩
variable{u:TypeId}
theorem cU{ks:List Kd}{k:D}(a:∀(k':D)(j:Value)(b:Bool),rel M ρ k' j->yz true k'=true->eqK ks k.cells k'.cells=some b->(Op.equal u vx j).run P w=.ok b w):
  ∀(f:List (D×D))(l:List MapEntry)(g:Nat),pi M ρ f l->(∀e∈f,yz true e.1=true)->(kQ ks k f).isSome=true->∃o,(Instr.findAsking u vx l g).run P w=.ok o w/\Pt ks M ρ k f g o
 | [],l,g,hr,_,_=>by simp only[pi]at hr;subst hr;exact⟨none,rfl,.inl ⟨rfl,rfl,λv=>rfl⟩⟩
 |(k',d)::f,l,g,hr,i,h=>by
  obtain⟨e,m,rfl,h1,p,h3⟩:=hr;simp only[kQ]at h;cases c:eqK ks k.cells k'.cells with
  |none=>rw[c]at h;cases h
  |some b=>
   have n:=a k' e.key b h1 (i (k',d) jS) c;cases b with
   |true=>exact⟨some (g,e.val),by simp[Instr.findAsking,n],.inr ⟨0,k',d,e.val,rfl,rfl,p,c,by simp[kQ,c],λv=>by simp[LY,c]⟩⟩
   |false=>
    rw[c]at h;obtain⟨o,o1,o2⟩:=cU a f m (g+1) h3 (λe q=>i e (by simp[q])) h;exact⟨o,by simp[Instr.findAsking,n,o1],o2.later c⟩
def Yh{ag:Bool}{ks:List Kd}(s:LH P u=some (ag,ks)){k:D}(j:rel M ρ k vx)(l:yz ag k=true){h:List (D×D)}{i:List MapEntry}(hr:pi M ρ h i)(n:∀e∈h,yz ag e.1=true)
  (v:(kQ ks k h).isSome=true):∃o,(Instr.findKey u vx i).run P w=.ok o w/\Pt ks M ρ k h 0 o:=by
 obtain⟨f,c⟩:=WG s;have y:∀(k':D)(d:Value)(b:Bool),rel M ρ k' d->yz ag k'=true->eqK ks k.cells k'.cells=some b->(Op.equal u vx d).run P w=.ok b w:=λk' d b h1 r h3=>by
  have:=N8 (P:=P) (M:=M) (ρ:=ρ) (w:=w) 9992 8 u ks ag f c k k' vx d b l r j h1 h3;exact this
 obtain⟨td,p,_⟩:=Y1 (P:=P) (w:=w) c;cases ag with
 |true=>
  obtain⟨o,o1,o2⟩:=cU (P:=P) (w:=w) y h i 0 hr n v;refine⟨o,?_,o2⟩;unfold Instr.findKey;simp only[zz,zX p,zd];have t:∀a b,Instr.sameNow td a b=none:=by
   intro a b;unfold agT at c;rw[p]at c;cases td<;>simp only at c<;>(try (cases c;done))<;>rfl
  cases i with
  |nil=>simpa [Instr.findAsking,Instr.findNow]using o1
  |cons e q=>
   have hf:Instr.findNow td vx (e::q) 0=none:=by simp[Instr.findNow,t]
   rw[hf];exact o1
 |false=>
  have g:∀(k':D)(d:Value)(b:Bool),rel M ρ k' d->yz false k'=true->eqK ks k.cells k'.cells=some b->Instr.sameNow td vx d=some b:=by
   intro k' d b h1 r h3;obtain⟨A,rfl⟩:=l7 f c;unfold pS at f;rw[p]at f;have m:∀fs,td≠ .struct fs:=λfs e=>by subst e;simp[agT,p]at c
   cases td<;>simp only at f<;>(try (cases f;done))<;>(try (exact absurd rfl (m _)))<;>(try (split at f<;>cases f))
   all_goals
    cases k<;>simp[yz]at l<;>cases k'<;>simp[yz]at r<;>simp[D.cells,eqK]at h3;simp only[rel]at j h1
   .subst j h1 h3;rfl
   .obtain⟨rfl,_⟩:=j;obtain⟨rfl,_⟩:=h1;obtain⟨rfl,rfl⟩:=h3;simp[Instr.sameNow]
   .obtain⟨z,rfl,rfl,_⟩:=j;obtain⟨x,rfl,rfl,_⟩:=h1;subst h3;simp only[Instr.sameNow];rw[beq_toListBytes,uV,uV]
  obtain⟨o,o1,o2⟩:=Ww g h i 0 hr n v;refine⟨o,?_,o2⟩;unfold Instr.findKey;simp only[zz,zX p,zd,o1,yU]
def LP(m:Value):Sem (Array MapEntry):=
 match m with
 |.map none=>pure #[]
 |.map (some r)=>do
  let .map es _<-getObj r|stuck "no map"
  pure es
 |_=>stuck "no map"
def WS(e:TypeId)(o:Option (Nat×Value)):Sem (Value×Bool):=
 match o with
 |some (_,v)=>pure (v,true)
 |none=>do pure (<-zeroValue e,false)
def JX(j:Sim w0 G M ρ h w){m:D}{c:List (D×D)}(d:rel M ρ m vx)(a:VZ m h=some c):∃b:Array MapEntry,pi M ρ c b.toList/\(LP vx).run P w=.ok b w:=by
 unfold VZ at a;split at a
 .cases a
  subst d;exact⟨#[],by simp[pi],rfl⟩
 .rename_i id
  split at a
  .rename_i e g
   cases a;obtain⟨l,i,rfl⟩:=d;obtain⟨n,h1,_,b,k,f,h3⟩:=j.live id _ g;rw[i]at h1;cases h1;exact⟨b,h3,by simp[LP,getObj,Sem.run,f]⟩
  .cases a
 .cases a
def Hd(P:Program)(w:World)(t kt e:TypeId)(h c:Value)(ok:Bool)(j:P.underlying t=some (.map kt e)){g:Array MapEntry}(b:(LP h).run P w=.ok g w):
  (Instr.lookup t h c ok).run P w=(do
   Instr.checkKey g.isEmpty 10000 kt c
   let o<-Instr.findKey kt c g.toList
   let (v,p)<-WS e o
   pure (if ok then .tuple #[v,.bool p]else v):Sem Value).run P w:=by
 unfold Instr.lookup;simp only[zz,zX j,zd];have tail:∀(d:Array MapEntry)(w:World),(do
   Instr.checkKey d.isEmpty 10000 kt c
   match<-Instr.findKey kt c d.toList with
    |some (_,v)=>do
     let x<-pure (v,true)
     pure (if ok=true then Value.tuple #[x.1,Value.bool x.2]else x.1)
    |none=>do
     let l<-zeroValue e
     let x<-pure (l,false)
     pure (if ok=true then Value.tuple #[x.1,Value.bool x.2]else x.1):Sem Value).run P w =
   (Sem.run P (Instr.checkKey d.isEmpty 10000 kt c) w).andThen λ_ f=>
    (Sem.run P (Instr.findKey kt c d.toList) f).andThen λa f=>
     (Sem.run P (WS e a) f).andThen λa f=>
      Sem.run P (pure (if ok=true then Value.tuple #[a.fst,Value.bool a.snd]else a.fst)) f:=by
  intro d w;simp only[zz];congr 1;funext _ m;congr 1;funext o w2;cases o with
  |none=>
   simp only[WS,zz,yU];cases(zeroValue e).run P w2<;>rfl
  |some p=>rfl
 cases h with
 |map r=>
  cases r with
  |none=>
   cases b;exact tail #[] w
  |some r=>
   simp only[LP,zz]at b⊢;cases i:(getObj r).run P w with
   |ok k m=>
    rw[i]at b;cases k with
    |map d n=>
     cases b;exact tail g w
    |_=>cases b
   |_=>rw[i]at b;cases b
 |_=>cases b
variable{vy:Value}
def JZ(F:Sim w0 G M ρ h w){m k d:D}{ok:Bool}(S:rel M ρ m vx)(K:rel M ρ k vy)(a:uW P t m k ok h=some d):YV P w0 G M ρ nid w (Instr.lookup t vx vy ok) d h:=by
 unfold uW at a;split at a
 .cases a
 .rename_i kt e C
  split at a
  .cases a
  .rename_i ag ks l
   split at a
   .cases a
   .rename_i z T
    obtain⟨i,U,_,_,E,f⟩:=oO (P:=P) (M:=M) (ρ:=ρ) (w:=w) T;split at a
    .cases a
    .rename_i H y
     unfold fw at a;split at a
     .rename_i J
      simp only[zF]at J;obtain⟨⟨g,A⟩,I⟩:=J;have c:∀e∈H,yz ag e.1=true:=by grind
      obtain⟨W,x,n⟩:=JX (P:=P) F S y;obtain⟨R,q⟩:=WG l;have s:=λp=>fZ (P:=P) (M:=M) (ρ:=ρ) (w:=w) p 9992 8 kt ks ag R q k vy g K A;split at a
      .rename_i r hr
       cases a;have B:(kQ ks k H).isSome=true:=by rw[hr];rfl
       obtain⟨o,o1,o2⟩:=Yh (P:=P) (w:=w) l K g x c B;have L:∀(v:Value)(b:Bool),(WS e o).run P w=.ok (v,b) w->
         (Instr.lookup t vx vy ok).run P w=.ok (if ok then .tuple #[v,.bool b]else v) w:=by
        rw[Hd P w t kt e vx vy ok (WU C) n];simp only[zz];rw[show(10000:Nat)=8+9992 from rfl,s]
        simp_all
       rcases o2 with⟨rfl,N,_⟩ | ⟨j,k',V,u,rfl,_,O,_,Q,_⟩
       .rw[N]at hr
        cases hr;refine .pure F (L U false (by simp[WS,f])) ?_;cases ok with
        |true=>
         grind [gO,rel,wI,uv]
        |false=>simpa [gO]using E
       .rw[Q]at hr
        cases hr;refine .pure F (L u true rfl) ?_;cases ok with
        |true=>
         grind [gO,rel,wI,uv]
        |false=>simpa [gO]using O
      .cases a
     .cases a
theorem Y6:∀{ks:List Kd}{as a:List D}{b:Bool},eqK ks as a=some b->eqK ks a as=some b
 | [],[],[],b,h=>h
 |.b::ks,.bool x::as,.bool y::a,b,h=>by
  simp only[eqK,ze]at h⊢;obtain⟨q,h,c⟩:=h;exact⟨q,Y6 h,by rw[<-c,jY]⟩
 |.i::ks,.int k x::as,.int k' y::a,b,h=>by
  simp only[eqK]at h⊢;split at h
  .rename_i d;subst d
   rw[ip rfl];simp only[ze]at h⊢;obtain⟨q,h,c⟩:=h;exact⟨q,Y6 h,by rw[<-c,jY]⟩
  .cases h
 |.s::ks,.str x::as,.str y::a,b,h=>by
  simp only[eqK,ze]at h⊢;obtain⟨q,h,c⟩:=h;exact⟨q,Y6 h,by rw[<-c,jY]⟩
theorem zCI{ks:List Kd}{ag:Bool}{k k':D}(n:Nat)(h1:rel M ρ k vx)(d:rel M ρ k' vy)(s1:yz ag k=true)(s2:yz ag k'=true)(c:eqK ks k.cells k'.cells=some true):Instr.sameBits (n+1) vx vy=true:=by
 cases ag with
 |true=>
  cases k<;>simp[yz]at s1;cases k'<;>simp[yz]at s2;obtain⟨xs,rfl,e,_⟩:=h1;obtain⟨ys,rfl,f,_⟩:=d;have j:=nN c;have i:xs.size=ys.size:=by
   have a:=qL e;have b:=qL f
   grind [D.cells]
  have:=lO (n:=n) c e f;simp only[Instr.sameBits,i,po,tH];simpa using this
 |false=>
  have g:k.cells= [k]:=by cases k<;>simp[yz]at s1<;>rfl
  have h:k'.cells= [k']:=by cases k'<;>simp[yz]at s2<;>rfl
  rw[g,h]at c;have:=lO (M:=M) (ρ:=ρ) (xs:=[vx]) (ys:=[vy]) (n:=n+1) c ⟨vx,[],rfl,h1,rfl⟩ ⟨vy,[],rfl,d,rfl⟩;simpa using this
theorem PO{k d:D}{e:MapEntry}(m:rel M ρ k e.key)(l:rel M ρ d e.val):∀{b:List (D×D)}{a:List MapEntry}(i:Nat),pi M ρ b a->pi M ρ (b.set i (k,d)) (a.set i e)
 | [],a,i,h=>by grind [pi]
 |(k',c)::b,a,0,h=>by grind [pi]
 |(k',c)::b,a,i+1,h=>by
  obtain⟨f,g,rfl,h1,j,h3⟩:=h;exact⟨f,_,rfl,h1,j,PO m l i h3⟩
theorem UZ{k d:D}{e:MapEntry}(j:rel M ρ k e.key)(i:rel M ρ d e.val):∀{b:List (D×D)}{a:List MapEntry},pi M ρ b a->pi M ρ (b++ [(k,d)]) (a++ [e])
 | [],a,h=>by grind [pi]
 |(k',l)::b,a,h=>by
  obtain⟨c,f,rfl,h1,g,h3⟩:=h;exact⟨c,_,rfl,h1,g,UZ j i h3⟩
theorem PN:∀{c:List (D×D)}{b:List MapEntry},pi M ρ c b->∀(i:Nat)(k d:D),c[i]? =some (k,d)->∃e,b[i]? =some e/\rel M ρ k e.key/\rel M ρ d e.val
 | [],_,_,i,k,d,a=>by simp at a
 |(k',l)::c,b,h,i,k,d,a=>by
  obtain⟨f,g,rfl,h1,j,h3⟩:=h;cases i with
  |zero=>simp at a;obtain⟨rfl,rfl⟩:=a;exact⟨f,rfl,h1,j⟩
  |succ i=>simp at a;simpa using PN h3 i k d a
variable{h':Heap}
def ah(S:Sim w0 G M ρ h w){m k v:D}{vm g r:Value}(hm:rel M ρ m vm)(I:rel M ρ k g)(E:rel M ρ v r)(c:uH P t m k v h=some h'):
  ∃w',(Instr.mapUpdate t vm g r).run P w=.ok () w'/\Sim w0 G M ρ h' w':=by
 unfold uH at c;split at c
 .cases c
 .rename_i kt e B
  split at c
  .rename_i ag ks z
   split at c
   .rename_i id
    split at c
    .rename_i es X
     split at c
     .rename_i W
      simp only[zF]at W;obtain⟨⟨⟨y,N⟩,V⟩,R⟩:=W;have q:∀e∈es,yz ag e.1=true:=by grind
      split at c
      .rename_i x a
       cases c;obtain⟨l,Y,rfl⟩:=hm;obtain⟨l',h1,L,s,F,H,h3⟩:=S.live id _ X;rw[Y]at h1;cases h1;obtain⟨h8,K⟩:=WG z;have ad:=fZ (P:=P) (M:=M) (ρ:=ρ) (w:=w) false 9992 8 kt ks ag h8 K k g y I N;obtain⟨o,o1,o2⟩:=Yh (P:=P) (w:=w) z I y h3 q R;have n:(getObj l.blk).run P w=.ok (.map s F) w:=by simp[getObj,Sem.run,H]
       have Z:∀U:Go.Obj,(setObj l.blk U).run P w=.ok () { w with heap:=w.heap.setIfInBounds l.blk U } :=λU=>by simp[setObj,Sem.run,H]
       have f:∀(i:Array MapEntry)(p:Nat),pi M ρ x i.toList->Sim w0 G M ρ (h.set id (.map x)) { w with heap:=w.heap.setIfInBounds l.blk (.map i p) } :=by
        intro i p C;have Q:l.blk<w.heap.size:=by grind
        refine S.put X Y rfl rfl rfl jS (λb hb=>by simp only[tG];rw[iq (λe=>hb e.symm)]) (λo v e=> ?_) ⟨_,H,λd=>by simp⟩ ⟨i,p,by simp[Q],C⟩;have:=S.imm _ _ _ e;simp[World.cell?,H]at this
       rcases o2 with⟨rfl,_,f1⟩ | ⟨j,k',d',u,rfl,f2,f3,f4,_,f5⟩
       .rw[f1]at a
        cases a;refine⟨_,?_,f (s.push { key:=g,val:=r,born:=F }) (F+1) (by rw[Array.toList_push];exact UZ I E h3)⟩;unfold Instr.mapUpdate;simp only[zz,zX (WU B),zd,n]
        simp_all
       .rw[f5]at a
        cases a;obtain⟨J,e1,e2,e3⟩:=PN h3 j k' d' f2;have O:(Instr.keyThatStays J.key g).run P w=.ok g w:=by
         have T:Instr.sameBits 10000 J.key g=true:=by grind [zCI,Y6]
         simp[Instr.keyThatStays,T]
        have A:(s.modify j λe=> { e with key:=g,val:=r }).toList=s.toList.set j { J with key:=g,val:=r } :=by
         apply tR
         grind
        refine⟨_,?_,f (s.modify j λe=> { e with key:=g,val:=r }) F (by rw[A];exact PO I E j h3)⟩;unfold Instr.mapUpdate;simp only[zz,zX (WU B),zd,n]
        simp_all [yP,qt,zA]
      .cases c
     .cases c
    .cases c
   .cases c
  .cases c
def MK(c:Sim w0 G M ρ h w)(a:ρ nid=none) :YV P w0 G M ρ nid w (Instr.makeMap t none) (.map nid) (h.new nid (.map [])):=by
 have k:=c.allocObj a (.map #[] 0) (.map []) ⟨w.heap.size,0,0⟩ rfl ⟨#[],0,by show(w.heap.push _)[w.heap.size]? =_;simp,by simp[pi]⟩;refine⟨.map (some w.heap.size),_,M,_,by simp[Instr.makeMap],MLe.refl _,tM a,λi b=>by simp[mD,jI b],k,?_⟩
 simp_all [rel,mD]
end
def Ar:Operand->Bool
 |.tmp _=>true
 |.const v=>jC v
 |.global _=>false
 |.func _=>true
def Nt(o:Op):Bool:=o.operands.toList.all Ar
def YN(P:Program)(w0:Base)(G:List Nat)(M:Imm)(ρ:Ren)(nid:Nat)(w:World)(s:Sem Next)(d:D)(h':Heap):Prop:=
 ∃nx v w' M' ρ',s.run P w=.ok nx w'/\(nx=.value v\/(nx=.skip/\v=undef))/\MLe M M'/\RLe ρ ρ'/\(∀i,h'.next<=i\/i≠nid->ρ' i=ρ i)/\Sim w0 G M' ρ' h' w'/\rel M' ρ' d v
section
variable{P:Program}{w0:Base}{G:List Nat}{M:Imm}{ρ:Ren}{h:Heap}{w:World}{nid:Nat}
variable{d:D}{h':Heap}
def YV.next{s:Sem Value}(k:YV P w0 G M ρ nid w s d h'):YN P w0 G M ρ nid w (do Pure.pure (Next.value (<-s))) d h':=by
 obtain⟨v,a,M',b,k1,k2,k3,k4,k5,k6⟩:=k;exact⟨.value v,v,a,M',b,by simp[k1],.inl rfl,k2,k3,k4,k5,k6⟩
theorem fX:rel M ρ rJ undef:=by
 unfold rJ undef
 grind [rel,wI]
def YN.skip{s:Sem Unit}(k:∃a,s.run P w=.ok () a/\Sim w0 G M ρ h' a):YN P w0 G M ρ nid w (do s;pure Next.skip) rJ h':=by
 obtain⟨a,k1,k2⟩:=k;exact⟨.skip,undef,a,M,ρ,by simp[k1],.inr ⟨rfl,rfl⟩,MLe.refl _,RLe.refl _,λ_ _=>rfl,k2,fX⟩
variable{v:Value}
def YN.still{s:Sem Next}(b:Sim w0 G M ρ h w)(hr:s.run P w=.ok (.value v) w)(a:rel M ρ d v):YN P w0 G M ρ nid w s d h:=
 ⟨.value v,v,w,M,ρ,hr,.inl rfl,MLe.refl _,RLe.refl _,λ_ _=>rfl,b,a⟩
variable{fr:Frm}
def ab{a:Act}(hf:UV M ρ fr a.tmps):∀{x:Operand},Ar x=true->rel M ρ (qz fr x) (a.eval x)
 |.tmp t,_=>hf t
 |.const v,h=>N6 v h
 |.global _,h=>by simp[Ar]at h
 |.func f,_=>by
  simp only[qz,Act.eval,rel,wI]
  grind
theorem fW{a:Act}(hf:UV M ρ fr a.tmps):∀{xs:List Operand},xs.all Ar=true->wI M ρ (xs.map (qz fr)) (xs.map a.eval)
 | [],_=>rfl
 |x::xs,h=>by
  simp only[um,zF]at h;exact⟨_,_,rfl,ab hf h.1,fW hf h.2⟩
variable{t:TypeId}{x:D}{vx:Value}
def Ga(j:Sim w0 G M ρ h w)(e:ρ nid=none)(l:rel M ρ x vx)(a:VE P nid t x h=some (d,h')):YV P w0 G M ρ nid w (Instr.range t vx) d h':=by
 unfold VE at a;split at a
 .rename_i s
  split at a
  .rename_i k
   cases a;obtain⟨b,rfl,rfl,c⟩:=l;have f:=j.allocObj e (.stringIter b 0) (.siter b.data.toList 0) ⟨w.heap.size,0,0⟩ rfl ⟨b,by show(w.heap.push _)[w.heap.size]? =_;simp,rfl⟩;refine⟨.pointer (some ⟨w.heap.size,0,none⟩),_,M,_,?_,MLe.refl _,tM e,λi g=>by simp[mD,jI g],f,?_⟩
   .simp only[Instr.range,zz,zX k,zd,yU,Z6,kH]
   .simp_all [rel,mD]
  .cases a
 .cases a
def DR(i:Sim w0 G M ρ h w){ty:TypeId}{g:Bool}(B:rel M ρ x vx)(a:Vl x g h=some (d,h')):YV P w0 G M ρ nid w (Instr.next vx g ty) d h':=by
 unfold Vl at a;split at a
 .rename_i id off
  split at a
  .rename_i s pos r
   split at a
   .rename_i q
    simp only[zF,zP]at q;obtain⟨rfl,rfl⟩:=q;obtain⟨l,t,rfl⟩:=B;obtain⟨C,h1,m,b,f,j⟩:=i.live id _ r;rw[t]at h1;cases h1;have A:b.size=s.length:=by rw[<-j,yX];rfl
    have n:(⟨s.toArray⟩:ByteArray)=b:=by rw[<-j]
    have p:l.blk<w.heap.size:=by grind
    split at a
    .rename_i z
     split at a
     .rename_i hr
      simp only[zF,zP,qj]at hr;cases a;have u:Sim w0 G M ρ (h.set id (.siter s (pos+(rx s pos).2))) { w with heap:=w.heap.setIfInBounds l.blk (.stringIter b (pos+(rx s pos).2)) } :=by
       refine i.put r t rfl rfl rfl jS (λb' k=>by simp only[tG];rw[iq (λe=>k e.symm)]) (λo v e=> ?_) ⟨_,f,λd=>by simp⟩ ⟨b,by simp[p],j⟩;have:=i.imm _ _ _ e;simp[World.cell?,f]at this
      refine⟨.tuple #[.bool true,.int .i64 pos,.int .i32 (rx s pos).1],_,M,ρ,?_,MLe.refl _,RLe.refl _,λ_ _=>rfl,u,?_⟩
      .have c:pos<b.size:=ow
       have y:Utf8.decode b pos=rx s pos:=by unfold rx;rw[n]
       simp only[Instr.next,getObj,zz,Sem.run,f,zd,c,qK,y];simp[setObj,Sem.run,f];rfl
      .simp only[rel,wI]
       refine⟨_,rfl,_,_,rfl,rfl,_,_,rfl,⟨rfl,?_⟩,_,_,rfl,⟨rfl,hr.2⟩,rfl⟩
       grind [YZ]
     .cases a
    .rename_i z
     cases a;have c:¬pos<b.size:=ow;refine .pure i (v:=.tuple #[.bool false]) ?_ ?_
     .simp only[Instr.next,getObj,zz,Sem.run,f,zd,c,yr]
      rfl
     .grind [rel,wI]
   .cases a
  .cases a
 .cases a
variable{α β:Type}
def we{o:Option α}{f:α->β}{b:β}(h:o.map f=some b):∃a,o=some a/\f a=b:=by simpa [ze]using h
variable{ds:List D}
def MH(f:Sim w0 G M ρ h w)(C:ρ nid=none){mu:Bool}{b:Builtin}{g:Array TypeId}{ty:TypeId}{cs:Array Bool}{vs:Array Value}(hr:wI M ρ ds vs.toList)
  (a:mf P mu nid b g.toList ds h=some (d,h')):YN P w0 G M ρ nid w (builtin b g ty cs vs) d h':=by
 obtain⟨g⟩:=g;obtain⟨vs⟩:=vs;simp only at hr a;unfold mf at a;split at a
 .split at a
  .split at a
   .simp only[wI]at hr
    obtain⟨v,_,rfl,hr,rfl⟩:=hr;obtain⟨e,h1,m⟩:=we a;cases m;exact(zCS f hr h1).next
   .cases a
  .cases a
 .split at a
  .split at a
   .rename_i t u s x
    split at a
    .rename_i i
     obtain⟨v,_,rfl,hr,z,_,rfl,c,rfl⟩:=hr;unfold rS at i;split at i
     .cases i
     .rename_i J j p
      exact(ME f C p (λk e=>by subst e;first|exact j k rfl|exact j k p) hr c a).next
     .cases i
    .simp only[wI]at hr
     obtain⟨v,_,rfl,hr,z,_,rfl,c,rfl⟩:=hr;exact YV.next (s:=Builtin.append_ _ ty _) (MF f C hr c a)
   .cases a
  .cases a
 .split at a
  .simp only[wI]at hr
   obtain⟨v,_,rfl,hr,z,_,rfl,c,rfl⟩:=hr;obtain⟨e,h1,m⟩:=we a;cases m;exact(zCT (t:=0) f _ hr c h1).next
  .cases a
 .split at a
  .rw[wI]at hr
   obtain⟨v,vs,rfl,hr,c⟩:=hr;obtain⟨e,h1,m⟩:=we a;cases m;exact(DQ f _ hr c h1).next
  .cases a
 .split at a
  .split at a
   .split at a
    .rename_i x
     obtain⟨v,_,rfl,hr,rfl⟩:=hr;split at a
     .rename_i e p
      cases a;subst hr;refine YV.next (s:=Builtin.cap_ _ ty _) (.pure f (v:=.int .i64 0) (by simp[Builtin.cap_,zX p,goInt]) (uJ ?_));rw[ou];simp[IntKind.min,IntKind.max,IntKind.signed,IntKind.bits]
     .cases a
    .cases a
   .cases a
  .cases a
 .split at a
  .split at a
   .split at a
    .rename_i x id sz off n
     obtain⟨v,_,rfl,hr,rfl⟩:=hr;split at a
     .cases a
     .rename_i I r
      cases a;obtain⟨_,E,l,cap,o,H,rfl,A,B,y⟩:=hr;have D:n≠0:=λq=>r q;obtain rfl:o=0:=y.resolve_left ow;refine YV.next (s:=Builtin.unsafeSliceData_ _ ty _) (.pure f (Go.Lib.run_unsafeSliceData_row w _ _ ⟨l.blk,0,none⟩ n cap ow) ?_)
      grind [rel]
     .cases a
    .simp only[wI]at hr
     obtain⟨v,_,rfl,hr,rfl⟩:=hr;cases a;subst hr;exact YV.next (s:=Builtin.unsafeSliceData_ _ ty _) (.pure f rfl (by simp only[rel]))
    .cases a
   .cases a
  .cases a
 .split at a
  .split at a
   .simp only[wI]at hr
    obtain⟨v,_,rfl,hr,z,_,rfl,c,rfl⟩:=hr;exact YV.next (s:=Builtin.unsafeString_ _ ty _) (RI f hr c a)
   .cases a
  .cases a
 .split at a
  .split at a
   .simp only[wI]at hr
    obtain⟨v,_,rfl,hr,rfl⟩:=hr;obtain⟨e,h1,m⟩:=we a;cases m;obtain⟨F,k1,k2⟩:=GW (ty:=ty) f hr h1;refine YV.next (s:=Builtin.clear_ _ ty _) ⟨_,F,M,ρ,k1,MLe.refl _,RLe.refl _,λ_ _=>rfl,k2,fX⟩
   .cases a
  .cases a
 .cases a
variable{o:Oper}
theorem Ay(A:Sim w0 G M ρ h w)(J:ρ nid=none){mu:Bool}{a:Act}(hf:UV M ρ fr a.tmps)(H:Nt o.op=true)(q:vop P mu nid o.op (qz fr) h=some (d,h')):
  YN P w0 G M ρ nid w (execOp a.eval o) d h':=by
 obtain⟨dst,op,ty,pos,after,guard⟩:=o;have j:∀x∈op.operands.toList,rel M ρ (qz fr x) (a.eval x):=λx E=>ab hf (zb.1 H x E);cases op<;>simp only[vop]at q<;>(try (cases q;done))<;>simp only[Op.operands]at j<;>simp only[execOp]
 case move x=>cases q;exact .still A rfl (j x jS)
 case assign x=>cases q;exact .still A rfl (j x jS)
 case pick c x y=>
  have F:=j c jS;split at q
  .rename_i e;rw[e]at F;simp only[rel]at F;cases q;exact .still A (by simp[F,asBool]) (j x jS)
  .rename_i e;rw[e]at F;simp only[rel]at F;cases q;exact .still A (by simp[F,asBool]) (j y jS)
  .cases q
 case alloc t=>
  split at q
  .rename_i z K
   split at q
   .rename_i L;cases q;exact(GU A J K L).next
   .cases q
  .cases q
 case box t x=>
  split at q
  .rename_i L
   split at q
   .rename_i hm;cases q;exact(W1 A J (j x jS) L).next
   .cases q;exact(MG A (j x jS) L).next
  .cases q
 case build t ps=>
  obtain⟨e,h1,B⟩:=we q;cases B;exact(GV A (qz fr) a.eval (λp R=>j p.2 (by simp;exact⟨p.1,by simpa using R⟩)) h1).next
 case buildSlice t n ps=>
  exact(Vh A J (qz fr) a.eval (λp R=>j p.2 (by simp;exact⟨p.1,by simpa using R⟩)) q).next
 case load t x=>
  obtain⟨e,h1,B⟩:=we q;cases B;exact(DP A (j x jS) h1).next
 case store t x y=>
  obtain⟨e,h1,B⟩:=we q;cases B;exact .skip (Gc A (j x jS) (j y jS) h1)
 case nilCheck x=>
  obtain⟨e,h1,B⟩:=we q;cases B;have E:=j x jS;unfold qU at h1;split at h1<;>(try (cases h1;done))<;>rename_i e<;>rw[e]at E<;>cases h1
  .have D:=E
   simp only[rel]at D;obtain⟨l,_,e⟩:=D;rw[e]at E⊢;exact .still A rfl E
  .have D:=E
   simp only[rel]at D;obtain⟨b,p,e,_⟩:=D;rw[e]at E⊢;exact .still A rfl E
  .have D:=E
   simp only[rel]at D;obtain⟨_,va,vc,e,_⟩:=D;rw[e]at E⊢;exact .still A rfl E
  .have D:=E
   simp only[rel]at D;obtain⟨l,_,e⟩:=D;rw[e]at E⊢;exact .still A rfl E
 case binOp op t x y u=>
  obtain⟨e,h1,B⟩:=we q;cases B;exact(zCR A x y (j x jS) (j y jS) h1).next
 case unOp op t x=>
  obtain⟨e,h1,B⟩:=we q;cases B;exact(zIj A (j x jS) h1).next
 case convert s t x=>
  obtain⟨e,h1,B⟩:=we q;cases B;exact(GX A (j x jS) h1).next
 case makeInterface t x=>
  split at q
  .rename_i F
   cases q;unfold zGH at F;refine YV.next (YV.pure (s:=Instr.makeInterface t (a.eval x)) A (v:=.iface t (a.eval x)) ?_ (by simp only[rel];exact⟨_,rfl,j x jS⟩));split at F
   .cases F
   .rename_i W I U
    cases W<;>first|(exact absurd rfl (I _);done)|(exact absurd U (I _);done)|(simp only[Instr.makeInterface,zz,zX U,zd];rfl)
   .cases F
  .cases q
 case makeFunc g x y=>
  split at q
  .rename_i f
   cases q;refine YV.next (YV.pure (s:=Instr.makeFunc (.func f) (x.map a.eval) (y.map a.eval)) A (v:=.func (.func f) (x.map a.eval) (y.map a.eval)) (by simp[Instr.makeFunc]) ?_);simp only[rel];refine⟨⟨f,rfl⟩,_,_,rfl,?_,?_⟩
   .rw[uX];exact fW hf (zb.2 λz K=>zb.1 H z (by simp[Op.operands];exact .inl (by simpa using K)))
   .rw[uX];exact fW hf (zb.2 λz K=>zb.1 H z (by simp[Op.operands];exact .inr (by simpa using K)))
  .cases q
 case makeMap t r=>
  split at q
  .cases q;exact(MK A J).next
  .cases q
 case makeSlice t x y=>exact(RG A J (j x jS) (j y jS) q).next
 case slice t x lo hi mx=>
  obtain⟨e,h1,B⟩:=we q;cases B;unfold ww at h1;split at h1
  .rename_i na Z S
   cases mx with
   |some m=>cases h1
   |none=>
    refine(Jb (vlo:=lo.map a.eval) (vhi:=hi.map a.eval) A S (j x jS) ?_ ?_ ?_ ?_ h1).next
    .intro d C;cases lo with
     |none=>cases C
     |some z=>cases C;exact⟨_,rfl,j z jS⟩
    .intro C;cases lo with
     |none=>rfl
     |some z=>cases C
    .intro d C;cases hi with
     |none=>cases C
     |some z=>cases C;exact⟨_,rfl,j z jS⟩
    .intro C;cases hi with
     |none=>rfl
     |some z=>cases C
  cases mx with
  |some m=>
   cases hi with
   |none=>simp[dC]at h1
   |some u=>
    refine(Ja (vlo:=lo.map a.eval) A (j x jS) ?_ ?_ (j u jS) (j m jS) h1).next
    .intro d C;cases lo with
     |none=>cases C
     |some z=>cases C;exact⟨_,rfl,j z jS⟩
    .intro C;cases lo with
     |none=>rfl
     |some z=>cases C
  |none=>
   refine(Gb (vlo:=lo.map a.eval) (vhi:=hi.map a.eval) A (j x jS) ?_ ?_ ?_ ?_ h1).next
   .intro d C;cases lo with
    |none=>cases C
    |some z=>cases C;exact⟨_,rfl,j z jS⟩
   .intro C;cases lo with
    |none=>rfl
    |some z=>cases C
   .intro d C;cases hi with
    |none=>cases C
    |some z=>cases C;exact⟨_,rfl,j z jS⟩
   .intro C;cases hi with
    |none=>rfl
    |some z=>cases C
 case fieldAddr t x f=>
  obtain⟨e,h1,B⟩:=we q;cases B;exact(RE A (j x jS) h1).next
 case field t x f=>
  obtain⟨e,h1,B⟩:=we q;cases B;unfold A6 at h1;split at h1
  .rename_i Q
   split at h1
   .rename_i cs N
    split at h1
    .rename_i O
     have E:=j x jS;rw[N]at E;exact(GY A E Q O h1).next
    .cases h1
   .cases h1
  .cases h1
 case indexAddr t x y=>
  obtain⟨e,h1,B⟩:=we q;cases B;exact(RF A (j x jS) (j y jS) h1).next
 case index t x y=>
  obtain⟨e,h1,B⟩:=we q;cases B;exact(GZ A (j x jS) (j y jS) h1).next
 case lookup t x y ok=>
  obtain⟨e,h1,B⟩:=we q;cases B;exact(JZ A (j x jS) (j y jS) h1).next
 case mapUpdate t x y z=>
  obtain⟨e,h1,B⟩:=we q;cases B;exact .skip (ah A (j x jS) (j y jS) (j z jS) h1)
 case insert t x y z=>
  obtain⟨e,h1,B⟩:=we q;cases B;exact .skip (ah A (j x jS) (j y jS) (j z jS) h1)
 case range t x=>exact(Ga A J (j x jS) q).next
 case next x isS=>exact(DR A (j x jS) q).next
 case extract x i=>
  obtain⟨e,h1,B⟩:=we q;cases B;exact(MJ A (j x jS) h1).next
 case call c=>
  split at q
  .rename_i b T
   have hr:wI M ρ (c.args.toList.map (qz fr)) (c.args.map a.eval).toList:=by
    rw[uX];exact fW hf (zb.2 λz K=>zb.1 H z (by simp[Op.operands,Call.operands,T];simpa using K))
   have:=MH (P:=P) (ty:=ty) (cs:=c.args.map fun|.const _=>true|_=>false) A J hr q
   obtain⟨V,v,X,M',Y,k⟩:=this;refine⟨V,v,X,M',Y,?_,k.2⟩;rw[<-k.1];simp only[resolve,T,zz,yU,zd,invoke];rfl
  .cases q
end
def km(ρ:Ren)(n:Nat):Prop:=∀i,n<=i->ρ i=none
def Ret(w0:Base)(G:List Nat)(M:Imm)(ρ:Ren)(Q:D->Heap->Prop)(e:Ending)(w':World):Prop:=
 ∃v M' ρ' d h',e=.returned v/\MLe M M'/\RLe ρ ρ'/\Sim w0 G M' ρ' h' w'/\km ρ' h'.next/\rel M' ρ' d v/\Q d h'
def pU(P:Program)(g:FuncId):Bool:=
 match P.funcs[g]? with
 |some fn=>fn.body.isSome&&fn.name != "runtime.NumGoroutine"
 |none=>false
noncomputable def bW:String:=String.ofList [Char.ofNat 105,Char.ofNat 110,Char.ofNat 116,Char.ofNat 101,Char.ofNat 114,Char.ofNat 110,Char.ofNat 97,Char.ofNat 108,Char.ofNat 47,Char.ofNat 115,Char.ofNat 116,Char.ofNat 114,Char.ofNat 99,Char.ofNat 111,Char.ofNat 110,Char.ofNat 118,Char.ofNat 46,Char.ofNat 117,Char.ofNat 105,Char.ofNat 110,Char.ofNat 116,Char.ofNat 54,Char.ofNat 52,Char.ofNat 112,Char.ofNat 111,Char.ofNat 119,Char.ofNat 49,Char.ofNat 48]
noncomputable def WV:String:=String.ofList [Char.ofNat 105,Char.ofNat 110,Char.ofNat 116,Char.ofNat 101,Char.ofNat 114,Char.ofNat 110,Char.ofNat 97,Char.ofNat 108,Char.ofNat 47,Char.ofNat 98,Char.ofNat 121,Char.ofNat 116,Char.ofNat 101,Char.ofNat 97,Char.ofNat 108,Char.ofNat 103,Char.ofNat 46,Char.ofNat 77,Char.ofNat 97,Char.ofNat 120,Char.ofNat 76,Char.ofNat 101,Char.ofNat 110]
def Jz(P:Program)(w:World):Prop:=(∀g,P.globalNamed bW=some g->Lib.TabIs P w bW .u64 Lib.pow10Tab)/\∀g,P.globalNamed WV=some g->∃m,w.cell? ⟨g,0,none⟩ =some (.int .i64 m)
def Rg(P:Program)(w0:Base):Prop:=(∀g,P.globalNamed bW=some g->w0.keep g/\Lib.TabIs P w0.toWorld bW .u64 Lib.pow10Tab)/\∀g,P.globalNamed WV=some g->w0.keep g/\∃m,w0.toWorld.cell? ⟨g,0,none⟩ =some (.int .i64 m)
variable{P:Program}{w w':World}{n id nid j i sz k:Nat}{x d y z:D}{vx vy v:Value}{vs:List Value}{M M':Imm}{ρ ρ':Ren}{u T t:TypeId}{ob:Obj}{l:Loc}{h' h h0:Heap}{fr:Frm}{α β:Type}{ds args:List D}{o:Oper}{os:List Nat}{K Q:D->Heap->Prop}{bk:Nat->Bool}{m b:Bool}{ev:Operand->D}{tmps va:Array Value}{U S0:Nat->Prop}{f:FuncId}
def Rg.here{w0:Base}(b:Rg P w0)(c:Kept w0 w){g:Nat}(h:P.globalNamed bW=some g):Lib.TabIs P w bW .u64 Lib.pow10Tab:=by
 obtain⟨h1,a⟩:=b.1 g h;unfold Lib.TabIs World.var? at a⊢;rw[h]at a⊢;simp only[rC]at a⊢;rw[c.block g h1];exact a
def Rg.max{w0:Base}(b:Rg P w0)(c:Kept w0 w){g:Nat}(h:P.globalNamed WV=some g):∃m,w.cell? ⟨g,0,none⟩ =some (.int .i64 m):=by
 obtain⟨h1,m,a⟩:=b.2 g h;refine⟨m,?_⟩;unfold World.cell? at a⊢;rw[c.block g h1];exact a
def Rg.base{w0:Base}(c:Rg P w0)(e:Kept w0 w){K:Nat->Prop}{a:∀b,K b->b<w.heap.size}(d:∀b,w0.keep b->K b):Rg P ⟨w,M,K,a⟩:=by
 refine⟨λg h=> ?_,λg h=> ?_⟩
 .exact⟨d g (c.1 g h).1,c.here e h⟩
 .exact⟨d g (c.2 g h).1,c.max e h⟩
def Rg.start(h:Jz P w){a:∀b,b<w.heap.size->b<w.heap.size} :Rg P ⟨w,M,λb=>b<w.heap.size,a⟩:=by
 refine⟨λg c=> ?_,λg c=> ?_⟩
 .have e:=h.1 g c
  refine⟨?_,e⟩;unfold Lib.TabIs World.var? at e
  grind
 .obtain⟨m,d⟩:=h.2 g c
  refine⟨?_,m,d⟩;unfold World.cell? at d
  grind
def zE(P:Program)(g:FuncId)(args:List D)(h:Heap)(Q:D->Heap->Prop):Prop:=
 pU P g=true/\∀w0 G M ρ w va,Rg P w0->Sim w0 G M ρ h w->km ρ h.next->wI M ρ args va.toList->Calls P g va w (Ret w0 G M ρ Q)
def uC(P:Program)(id:Nat)(args:List D)(h:Heap)(Q:D->Heap->Prop):Prop:=
 ∀w0 G M ρ w va l,Rg P w0->Sim w0 G M ρ h w->km ρ h.next->wI M ρ args va.toList->ρ id=some l->
  ∃f tmps as body,(Instr.yield l.blk va).run P w=.ok (.round l.blk f tmps as body) w/\RoundIn Fence.wide 0 P l.blk f tmps as body w (Ret w0 G M ρ Q)
def YL(P:Program)(f:D)(args:List D)(h:Heap)(Q:D->Heap->Prop):Prop:=
 match f with
 |.fn g first cap=>match g with
  |.func g=>zE P g (first++args++cap) h Q
  |_=>False
 |.yld id=>uC P id args h Q
 |_=>False
def Ret.mono{w0:Base}{Q a:D->Heap->Prop}{e:Ending}(b:∀d h,Q d h->a d h):Ret w0 os M ρ Q e w'->Ret w0 os M ρ a e w'
 | ⟨v,M',c,d,h',k1,k2,k3,k4,k5,k6,k7⟩=>⟨v,M',c,d,h',k1,k2,k3,k4,k5,k6,b _ _ k7⟩
theorem zE.mono{g:FuncId}{Q a:D->Heap->Prop}(k:zE P g args h Q)(c:∀d h,Q d h->a d h):zE P g args h a:=
 ⟨k.1,λw0 G M ρ w e h0 h1 b h3=>(k.2 w0 G M ρ w e h0 h1 b h3).mono λ_ _=>Ret.mono c⟩
def zE.use{g:FuncId}{v:D}(k:zE P g args h λr h'=>h'=h/\r=v)(a:K v h):zE P g args h K:=by
 refine k.mono ?_;rintro r h' ⟨rfl,rfl⟩;exact a
theorem uC.mono{g:Nat}{Q c:D->Heap->Prop}(k:uC P g args h Q)(j:∀d h,Q d h->c d h):uC P g args h c:=
 λw0 G M ρ w m l h0 h1 e h3 i=>let ⟨f,t,a,b,k1,k2⟩:=k w0 G M ρ w m l h0 h1 e h3 i;⟨f,t,a,b,k1,k2.mono λ_ _=>Ret.mono j⟩
theorem YL.mono{f:D}{Q a:D->Heap->Prop}(b:∀d h,Q d h->a d h)(k:YL P f args h Q):YL P f args h a:=by
 cases f<;>simp only[YL]at k⊢
 case fn g first cap=>
  grind [zE.mono]
 grind [uC.mono]
def uy(o:Op):Option (Operand×List Operand):=
 match o with
 |.call c=>match c.callee with
  |.value f=>some (f,c.args.toList)
  |_=>none
 |_=>none
def rK(P:Program)(mu:Bool)(nid:Nat)(o:Op)(ev:Operand->D)(h:Heap)(K:D->Heap->Prop):Prop:=
 match uy o with
 |some (f,args)=>YL P (ev f) (args.map ev) h K
 |none=>match vop P mu nid o ev h with
  |some (d,h')=>K d h'
  |none=>False
def uf(ops:Array Oper)(fr:Frm)(g:Option (Nat×Bool)):Bool:=
 match g with
 |none=>true
 |some (j,want)=>match(ops[j]?).bind (·.dst)with
  |some t=>match fr t with
   |.bool b=>b==want
   |_=>false
  |none=>false
def nz(fr:Frm)(dst:Option Tmp)(d:D):Frm:=
 match dst with
 |some t=>λi=>if i=t then d else fr i
 |none=>fr
def ZS(mu:Tmp->Bool):Option Tmp->Bool
 |some t=>mu t
 |none=>false
def HLe(h h':Heap):Prop:=∀i ob,h.at' i=some ob->h'.at' i=some ob
def Fg(P:Program)(h0:Heap)(o:Op)(ev:Operand->D)(d:D):Prop:=∀h',HLe h0 h'->rK P false h'.next o ev h' λd' h''=>d'=d/\h''=h'
def Kb(P:Program)(h0:Heap)(o:Op)(ev:Operand->D)(S:D->Prop):Prop:=∀h',HLe h0 h'->rK P false h'.next o ev h' λd' h''=>S d'/\h''=h'
inductive Fl where
 |no|st|sq|qu|al (k:Nat)
def Fl.isSt:Fl->Bool
 |.st=>true
 |.sq=>true
 |_=>false
def Fl.isS1:Fl->Bool
 |.st=>true
 |_=>false
def Fl.isSq:Fl->Bool
 |.sq=>true
 |_=>false
def Fl.isQu:Fl->Bool
 |.qu=>true
 |_=>false
def Fl.isNo:Fl->Bool
 |.no=>true
 |_=>false
def Fl.isAl:Fl->Bool
 |.al _=>true
 |_=>false
def ux(P:Program)(mu:Tmp->Bool)(h0:Heap)(st:Fl)(ops:Array Oper)(o:Oper)(fr:Frm)(h:Heap)(k:D->Heap->Prop):Prop:=
 match uf ops fr o.guard with
 |false=>k rJ h
 |true=>match st with
  |.st=>∃d,Fg P h0 o.op (qz fr) d/\k d h
  |.sq=>(uy o.op).isSome=true/\∃S:D->Prop,(∃e,S e)/\Kb P h0 o.op (qz fr) S/\∀d,S d->k d h
  |.no=>rK P (ZS mu o.dst) h.next o.op (qz fr) h k
  |.qu=>rK P (ZS mu o.dst) h.next o.op (qz fr) h λd h'=>h'=h/\k d h
  |.al i=>rK P (ZS mu o.dst) (h0.next+i) o.op (qz fr) h k
def VO(P:Program)(mu:Tmp->Bool)(ops:Array Oper):List Oper->(Frm->Heap->Prop)->Frm->Heap->Prop
 | [],K,fr,h=>K fr h
 |o::rest,K,fr,h=>
  match uf ops fr o.guard with
  |true=>rK P (ZS mu o.dst) h.next o.op (qz fr) h λd h'=>VO P mu ops rest K (nz fr o.dst d) h'
  |false=>VO P mu ops rest K (nz fr o.dst rJ) h
def mF(P:Program)(mu:Tmp->Bool)(h0:Heap)(bk:Nat->Bool)(ops:Array Oper):Bool->List (Nat×Fl)->(Frm->Heap->Prop)->Frm->Heap->Prop
 |_,[],K,fr,h=>K fr h
 |fl,(i,st)::rest,K,fr,h=>
  match ops[i]? with
  |none=>False
  |some o=>ux P mu h0 st ops o fr h λd h'=>((fl&& !bk i)=true->HLe h0 h')/\mF P mu h0 bk ops (fl&& !bk i) rest K (nz fr o.dst d) h'
def alN:List (Nat×Fl)->Nat
 | []=>0
 |x::rest=>match x.2 with
  |.al k=>max (k+1) (alN rest)
  |_=>alN rest
def Heap.bump(h:Heap)(m:Nat):Heap:= { next:=h.next+m,at':=h.at' }
def cn(P:Program)(mu:Tmp->Bool)(h0:Heap)(bk:Nat->Bool)(ops:Array Oper)(fl:Bool)(l:List (Nat×Fl))(K:Frm->Heap->Prop)(fr:Frm)(h:Heap):Prop:=
 match alN l with
 |0=>mF P mu h0 bk ops fl l K fr h
 |m+1=>h0.next=h.next/\mF P mu h0 bk ops fl l K fr (h.bump (m+1))
def ZI{mu:Tmp->Bool}{ops:Array Oper}{fl:Bool}{l:List (Nat×Fl)}{K:Frm->Heap->Prop}(a:alN l=0):cn P mu h0 bk ops fl l K fr h=mF P mu h0 bk ops fl l K fr h:=by
 unfold cn;rw[a]
def Pj{mu:Tmp->Bool}{ops:Array Oper}{fl:Bool}{l:List (Nat×Fl)}{K:Frm->Heap->Prop}{m:Nat}(a:alN l=m+1):cn P mu h0 bk ops fl l K fr h=(h0.next=h.next/\mF P mu h0 bk ops fl l K fr (h.bump (m+1))):=by
 unfold cn;rw[a]
section
variable{P:Program}{mu:Tmp->Bool}{h0:Heap}{ops:Array Oper}
theorem dA{o:Op}{K a:D->Heap->Prop}(b:∀d h,K d h->a d h)(k:rK P m nid o ev h K):rK P m nid o ev h a:=by grind [rK,YL.mono]
theorem bZ{st:Fl}{K a:D->Heap->Prop}(b:∀d h,K d h->a d h)(k:ux P mu h0 st ops o fr h K):ux P mu h0 st ops o fr h a:=by
 unfold ux at k⊢;split at k
 .exact b _ _ k
 .split at k
  .grind
  .obtain⟨k0,S,k1,k2,k3⟩:=k;exact⟨k0,S,k1,k2,λd q=>b _ _ (k3 d q)⟩
  all_goals grind [dA]
def FA{o:Op}{ev d:Operand->D}(f:∀x∈o.operands.toList,ev x=d x):vop P m nid o ev h=vop P m nid o d h:=by
 have a:∀e:Array (Nat×Operand),(∀p∈e.toList,ev p.2=d p.2)->(e.toList.map λp=>(p.1,ev p.2))=(e.toList.map λp=>(p.1,d p.2)):=λe i=>
  wY λp q=>by rw[i p q]
 cases o<;>simp only[Op.operands]at f<;>simp only[vop]
 case build t e=>rw[a e λp i=>f p.2 (by simp;exact⟨p.1,by simpa using i⟩)]
 case buildSlice t n e=>rw[a e λp i=>f p.2 (by simp;exact⟨p.1,by simpa using i⟩)]
 case makeFunc g x y=>
  rw[wY (l:=x.toList) λz j=>f z (by simp;exact .inl (by simpa using j)),wY (l:=y.toList) λz j=>f z (by simp;exact .inr (by simpa using j))]
 case call c=>
  split
  .rename_i b k
   rw[wY (l:=c.args.toList) λz j=>f z (by simp[Call.operands,k];simpa using j)]
  .rfl
 case slice t x lo hi mx=>cases lo<;>cases hi<;>cases mx<;>simp_all
 all_goals(first|rfl|(simp_all;done)|(simp only[yE,wu,jz,forall_eq_or_imp,forall_eq]at f;simp_all;done))
def YD{o:Op}{ev b:Operand->D}(d:∀x∈o.operands.toList,ev x=b x):rK P m nid o ev h K=rK P m nid o b h K:=by
 unfold rK;rw[FA d];split
 .rename_i f args a
  unfold uy at a;split at a
  .rename_i c
   split at a
   .rename_i g e
    cases a;rw[d f (by simp[Op.operands,Call.operands,e]),wY (l:=c.args.toList) λz i=>d z (by simp[Op.operands,Call.operands,e];first|exact .inl (by simpa using i)|exact .inr (by simpa using i))]
   .cases a
  .cases a
 .rfl
def DD{dst:Option Tmp}{x:Operand}(h:∀t,dst=some t->x≠ .tmp t):qz (nz fr dst d) x=qz fr x:=by
 cases dst with
 |none=>rfl
 |some t=>
  cases x with
  |tmp u=>
   grind [qz,nz]
  |_=>rfl
def Nh{dst:Option Tmp}(h:∀t,dst=some t->t∉o.looksAt ops):uf ops (nz fr dst d) o.guard=uf ops fr o.guard:=by
 cases dst with
 |none=>rfl
 |some t=>
  unfold uf;cases f:o.guard with
  |none=>rfl
  |some c=>
   obtain⟨g,b⟩:=c;simp only;cases i:(ops[g]?).bind (·.dst)with
   |none=>rfl
   |some u=>
    have a:u≠t:=λe=>h t rfl (by subst e;simp[Oper.looksAt,f,i]);simp[nz,a]
def HA{dst:Option Tmp}(h:∀t,dst=some t->t∉o.looksAt ops):∀x∈o.op.operands.toList,qz (nz fr dst d) x=qz fr x:=λx c=>
 DD λt b a=>h t b (by
  subst a;exact mQ _ (List.mem_filterMap.2 ⟨.tmp t,by simpa using c,rfl⟩))
def Kc{o:Op}{ev a:Operand->D}(b:∀x∈o.operands.toList,ev x=a x):Fg P h0 o ev d=Fg P h0 o a d:=by
 unfold Fg;simp only[YD b]
def Pw{o:Op}{ev a:Operand->D}{S:D->Prop}(b:∀x∈o.operands.toList,ev x=a x):Kb P h0 o ev S=Kb P h0 o a S:=by
 unfold Kb;simp only[YD b]
theorem lU{st:Fl}{dst:Option Tmp}(a:∀t,dst=some t->t∉o.looksAt ops):ux P mu h0 st ops o (nz fr dst d) h K=ux P mu h0 st ops o fr h K:=by
 unfold ux;rw[Nh a];simp only[Kc (HA a),Pw (HA a),YD (HA a)]
def GG{x y:Option Tmp}{d e:D}(h:∀t,x=some t->y≠some t):nz (nz fr x d) y e=nz (nz fr y e) x d:=by
 cases x with
 |none=>rfl
 |some t=>
  cases y with
  |none=>rfl
  |some u=>
   have a:t≠u:=λc=>h t rfl (c▸rfl)
   funext i
   simp only[nz];by_cases h1:i=t
   .have b:i≠u:=λe=>a (h1.symm.trans e)
    rw[ip h1,iq b,ip h1]
   .rw[iq h1,iq h1]
def ry(P:Program)(m:Bool)(o:Op):Bool:=
 match o with
 |.move _|.assign _|.pick _ _ _|.build _ _|.nilCheck _|.binOp _ _ _ _ _|.unOp _ _ _|.makeFunc _ _ _|.fieldAddr _ _ _|.field _ _ _|.indexAddr _ _ _|.index _ _ _|.extract _ _|.makeInterface _ _=>true
 |.convert s _ _=> !zNG P s
 |.box _ _|.buildSlice _ _ _|.makeSlice _ _ _=> !m
 |.slice t _ _ _ _=>(Vt P t).isNone
 |.call c=>match c.callee with
  |.builtin .len|.builtin .min|.builtin .max|.builtin .unsafeSliceData=>true
  |_=>false
 |_=>false
def mT(P:Program)(o:Op):Bool:=
 match o with
 |.load _ _|.lookup _ _ _ _|.slice _ _ _ _ _=>true
 |_=>false
variable{P:Program}
def Pi{s d:TypeId}(a:zNG P s=false):∃r:Option D,∀h,ZH P s d x h=r:=by
 cases x with
 |ptr id off=>
  refine⟨none,λh=> ?_⟩
  grind [ZH,Gy,zNG]
 |_=>exact⟨_,λ_=>rfl⟩
def mj{o:Op}(e:ry P m o=true):∃r:Option D,∀nid h,vop P m nid o ev h=r.map (·,h):=by
 have ite:∀(c:Prop)[Decidable c](d:D),∃r:Option D,∀(nid:Nat)(h:Heap),(if c then some (d,h)else none)=r.map (·,h):=λc _ d=>by
  by_cases f:c
  .exact⟨some d,λ_ h=>by rw[ip f];rfl⟩
  .exact⟨none,λ_ h=>by rw[iq f];rfl⟩
 cases o<;>simp only[ry]at e<;>(try (cases e;done))<;>simp only[vop]
 case move x=>exact⟨some (ev x),λ_ _=>rfl⟩
 case assign x=>exact⟨some (ev x),λ_ _=>rfl⟩
 case pick c a b=>
  split
  .exact⟨some _,λ_ _=>rfl⟩
  .exact⟨some _,λ_ _=>rfl⟩
  .exact⟨none,λ_ _=>rfl⟩
 case convert s d x=>
  obtain⟨r,hr⟩:=Pi (P:=P) (s:=s) (d:=d) (x:=ev x) (by simpa using e);exact⟨r,λ_ h=>by rw[hr]⟩
 case box t x=>
  cases m with
  |true=>cases e
  |false=>simpa using ite _ _
 case buildSlice t n ps=>
  cases m with
  |true=>cases e
  |false=>
   unfold yA;split
   .exact⟨none,λ_ _=>rfl⟩
   .split
    .exact⟨none,λ_ _=>rfl⟩
    .dsimp only
     split
     .split
      .exact⟨none,λ_ _=>rfl⟩
      .exact⟨some _,λ_ _=>rfl⟩
     .exact⟨none,λ_ _=>rfl⟩
 case makeSlice t l c=>
  cases m with
  |true=>cases e
  |false=>
   unfold uk;split
   .split
    .simp_all
    .exact⟨none,λ_ _=>rfl⟩
   .exact⟨none,λ_ _=>rfl⟩
 case makeFunc g x y=>
  split
  .exact⟨some _,λ_ _=>rfl⟩
  .exact⟨none,λ_ _=>rfl⟩
 case makeInterface t x=>exact ite _ _
 case slice t x lo hi mx=>
  have j:Vt P t=none:=by simpa using e
  exact⟨_,λ_ _=>by rw[ww,j]⟩
 case call c=>
  split
  .rename_i b i
   rw[i]at e;unfold mf;cases b<;>simp only at e<;>(try (cases e;done))
   .dsimp only
    split
    .split
     .exact⟨_,λ_ _=>rfl⟩
     .exact⟨none,λ_ _=>rfl⟩
    .exact⟨none,λ_ _=>rfl⟩
   .dsimp only
    split
    .exact⟨_,λ_ _=>rfl⟩
    .exact⟨none,λ_ _=>rfl⟩
   .dsimp only
    split
    .exact⟨_,λ_ _=>rfl⟩
    .exact⟨none,λ_ _=>rfl⟩
   .dsimp only
    split
    .split
     .split
      .split
       .exact⟨none,λ_ _=>rfl⟩
       .exact⟨some _,λ_ _=>rfl⟩
       .exact⟨none,λ_ _=>rfl⟩
      .exact⟨some _,λ_ _=>rfl⟩
      .exact⟨none,λ_ _=>rfl⟩
     .exact⟨none,λ_ _=>rfl⟩
    .exact⟨none,λ_ _=>rfl⟩
  .grind
 all_goals exact⟨_,λ_ _=>rfl⟩
def Wm{o:Op}(a:mT P o=true):∃r:Heap->Option D,∀nid h,vop P m nid o ev h=(r h).map (·,h):=by
 cases o<;>simp only[mT]at a<;>(try (cases a;done))<;>simp only[vop]
 .exact⟨λh=>_,λ_ _=>rfl⟩
 .exact⟨λh=>_,λ_ _=>rfl⟩
 .exact⟨λh=>_,λ_ _=>rfl⟩
theorem lw{o:Op}(a:ry P m o=true):uy o=none:=by
 cases o<;>simp only[ry]at a<;>(try (cases a;done))<;>simp only[uy]
 grind
def Xt{o:Op}(a:mT P o=true):uy o=none:=by
 cases o<;>simp only[mT]at a<;>(try (cases a;done))<;>rfl
end
section
variable{P:Program}{mu:Tmp->Bool}{h0:Heap}{ops:Array Oper}
def clo(ops:Array Oper):Nat->Nat->Nat->Bool
 |0,_,_=>false
 |n+1,i,j=>match ops[i]? with
  |none=>false
  |some o=>o.after.any λe=>Region.binds .any e&&(e.on==j||clo ops n e.on j)
def U5:Op->Bool
 |.alloc _=>true
 |_=>false
def Rm(P:Program)(mu:Tmp->Bool)(j i:Fl)(oj oi:Oper):Bool:=
 match j with
 |.al k=>U5 oj.op&&(i.isS1||ry P (ZS mu oi.dst) oi.op||(match i with
  |.al k'=>U5 oi.op&&k !=k'
  |_=>false))
 |_=>false
def L8(j i:Fl)(oi:Oper):Bool:=j.isSq&&i.isNo&&(uy oi.op).isNone
def cY(P:Program)(mu:Tmp->Bool)(ops:Array Oper)(j i:Nat×Fl):Bool:=
 match ops[j.1]?,ops[i.1]? with
 |some oj,some oi=>oj.apart ops oi&&(j.2.isS1||ry P (ZS mu oj.dst) oj.op||(j.2.isNo&&mT P oj.op&&(i.2.isS1||i.2.isQu||ry P (ZS mu oi.dst) oi.op||mT P oi.op))||Rm P mu j.2 i.2 oj oi||L8 j.2 i.2 oi)
 |_,_=>false
def Tu(P:Program)(mu:Tmp->Bool)(ops:Array Oper):List (Nat×Fl)->Bool
 | []=>true
 |j::rest=>rest.all (λi=>clo ops ops.size i.1 j.1||cY P mu ops j i)&&Tu P mu ops rest
def RO(ops:Array Oper):List (Nat×Fl)->Bool
 | []=>true
 |j::rest=>(match ops[j.1]? with
  |none=>false
  |some o=>o.after.all λe=> !Region.binds .any e||(decide (e.on<ops.size)&&e.on !=j.1&&rest.all λi=>e.on !=i.1))&&RO ops rest
def Hg(ms:List Nat)(i:Nat)(o:Oper):Nat:=o.after.toList.foldl (λa e=>if Region.binds .any e&&decide (e.on<i)then a |||(ms.getD (i-1-e.on) 0 |||2^e.on)else a) 0
def Zo:List Oper->Nat->List Nat->List Nat
 | [],_,ms=>ms
 |o::rest,i,ms=>Zo rest (i+1) (Hg ms i o::ms)
def PE(P:Program)(ms:List Nat)(n:Nat)(mu:Tmp->Bool)(ops:Array Oper):List (Nat×Fl)->Bool
 | []=>true
 |j::rest=>rest.all (λi=>(decide (i.1<n)&&Nat.testBit (ms.getD (n-1-i.1) 0) j.1)||cY P mu ops j i)&&PE P ms n mu ops rest
def J6(P:Program)(mu:Tmp->Bool)(ops:Array Oper)(l:List (Nat×Fl))(ms:List Nat)(i:Nat):Bool:=
 match ops[i]? with
 |none=>false
 |some o=> !ry P (ZS mu o.dst) o.op&& !mT P o.op&&l.all λj=>(!j.2.isSt||(j.1 !=i&&(decide (i<ops.size)&&Nat.testBit (ms.getD (ops.size-1-i) 0) j.1)))&&(j.1 !=i|| !j.2.isAl)
def zKz(ops:Array Oper)(l:List (Nat×Fl)):Bool:=
 match alN l with
 |0=>true
 |_+1=>ops.toList.all (λo=>(uy o.op).isNone)&&l.all λx=>l.all λy=>match x.2 with
  |.al k=>match y.2 with
   |.al k'=>k !=k'||x.1==y.1
   |_=>true
  |_=>true
def I6(P:Program)(mu:Tmp->Bool)(ops:Array Oper)(l:List (Nat×Fl)):Bool:=
 (List.range ops.size).all (λi=>(l.map (·.1)).contains i)&&l.length==ops.size&&decide ((l.map (·.1)).Nodup)&&PE P (Zo ops.toList 0 []) ops.size mu ops l&&RO ops l&&zKz ops l
theorem Y2:∀{n m i j:Nat},n<=m->clo ops n i j=true->clo ops m i j=true
 |0,_,_,_,_,h=>by simp[clo]at h
 |n+1,0,_,_,c,_=>by omega
 |n+1,m+1,i,j,c,h=>by
  simp only[clo]at h⊢;split at h
  .cases h
  .simp only[lm,zF,qN]at h⊢
   obtain⟨e,b,a,h⟩:=h;exact⟨e,b,a,h.imp id (Y2 ow)⟩
theorem Qd{c:α->Bool}{f:α->Nat} :∀(l:List α)(a:Nat),Nat.testBit (l.foldl (λa e=>if c e then a |||f e else a) a) j=true->Nat.testBit a j=true\/∃e∈l,c e=true/\Nat.testBit (f e) j=true
 | [],a,h=>.inl h
 |e::l,a,h=>by
  rcases Qd l _ h with h| ⟨b,h1,d⟩
  all_goals grind
theorem Zp:∀(rest pre:List Oper)(ms:List Nat),ops.toList=pre++rest->ms.length=pre.length->(∀k,k<pre.length->∀j,Nat.testBit (ms.getD (pre.length-1-k) 0) j=true->clo ops (k+1) k j=true)->
  ∀k,k<ops.size->∀j,Nat.testBit ((Zo rest pre.length ms).getD (ops.size-1-k) 0) j=true->clo ops (k+1) k j=true
 | [],pre,ms,i,m,g,k,l,j,h=>by grind [clo,Zo]
 |o::rest,pre,ms,i,m,g,k,l,j,h=>by
  have p:ops[pre.length]? =some o:=by rw[<-qo,i];simp
  have a:(pre++ [o]).length=pre.length+1:=jS;refine Zp rest (pre++ [o]) (Hg ms pre.length o::ms) (by rw[i];simp) (by rw[a,zu,m]) (λk' b q h'=> ?_) k l j (by rw[a];exact h);rw[a]at b h';by_cases d:k'=pre.length
  .subst d
   rw[show pre.length+1-1-pre.length=0 by omega,List.getD_cons_zero,Hg]at h';rcases Qd (c:=λe=>Region.binds .any e&&decide (e.on<pre.length)) (f:=λe=>ms.getD (pre.length-1-e.on) 0 |||2^e.on) (j:=q) o.after.toList 0 h' with h'| ⟨e,h1,n,h3⟩
   .simp at h'
   .simp only[zF,zP]at n
    simp only[clo,p,lm,zF,qN,qj]
    grind [Y2]
  .grind
theorem UK(a:∀k,k<ops.size->∀j,Nat.testBit (os.getD (ops.size-1-k) 0) j=true->clo ops (k+1) k j=true):∀(l:List (Nat×Fl)),PE P os ops.size mu ops l=true->Tu P mu ops l=true
 | [],_=>rfl
 |j::rest,h=>by
  simp only[PE,Tu,zF,zb,qN,zP]at h⊢;refine⟨λi b=> ?_,UK a rest h.2⟩
  grind [Y2]
def K7{l:List (Nat×Fl)}(h:PE P (Zo ops.toList 0 []) ops.size mu ops l=true):Tu P mu ops l=true:=
 UK (λk a j b=>Zp ops.toList [] [] rfl rfl (λk a=>by simp at a) k a j b) l h
theorem RP{st:Fl}{k:D->Heap->Prop}(b:(st.isS1||ry P (ZS mu o.dst) o.op)=true)(a:ux P mu h0 st ops o fr h k):
  ∃d,k d h/\∀(h':Heap)(k':D->Heap->Prop),k' d h'->ux P mu h0 st ops o fr h' k':=by
 unfold ux at a⊢;split at a
 .grind
 .cases st with
  |st=>
   grind
  |sq=>
   grind [Fl.isS1,lw]
  |no=>
   unfold rK at a⊢;rw[lw b]at a⊢;obtain⟨r,hr⟩:=mj (P:=P) (ev:=qz fr) b;simp only[hr]at a⊢;cases r with
   |none=>exact a.elim
   |some d=>exact⟨d,a,λh' k' c=>c⟩
  |qu=>
   unfold rK at a⊢;rw[lw b]at a⊢;obtain⟨r,hr⟩:=mj (P:=P) (ev:=qz fr) b;simp only[hr]at a⊢;cases r with
   |none=>exact a.elim
   |some d=>exact⟨d,a.2,λh' k' c=>⟨rfl,c⟩⟩
  |al i=>
   unfold rK at a⊢;rw[lw b]at a⊢;obtain⟨r,hr⟩:=mj (P:=P) (ev:=qz fr) b;simp only[hr]at a⊢;cases r with
   |none=>exact a.elim
   |some d=>exact⟨d,a,λh' k' c=>c⟩
def FW(i:Nat):Option Obj->Heap->Heap
 |none,h=>h
 |some o,h=>h.new i o
def Ho(c:i≠j)(x y:Option Obj)(h:Heap):FW i x (FW j y h)=FW j y (FW i x h):=by
 cases x with
 |none=>rfl
 |some a=>
  cases y with
  |none=>rfl
  |some b=>
   simp only[FW,Heap.new,Heap.mk.injEq]
   grind
variable{h0:Heap}
def HLe.newO{x:Option Obj}(g:h0.at' i=none)(d:HLe h0 h):HLe h0 (FW i x h):=by
 intro k f b;cases x with
 |none=>exact d k f b
 |some a=>
  have c:k≠i:=λe=>by rw[e,g]at b;cases b
  simp only[V.FW,Heap.new,c,yr];exact d k f b
def HLe.of_newO{x:Option Obj}(f:h0.at' i=none)(d:HLe h0 (V.FW i x h)):HLe h0 h:=by
 intro k e c;have:=d k e c;cases x with
 |none=>exact this
 |some a=>
  have b:k≠i:=by grind
  simpa only[V.FW,Heap.new,b,yr]using this
def zIt{k:D->Heap->Prop}(e:U5 o.op=true)(a:ux P mu h0 (.al i) ops o fr h k):
  ∃d x,k d (FW (h0.next+i) x h)/\∀(h':Heap)(k':D->Heap->Prop),k' d (FW (h0.next+i) x h')->ux P mu h0 (.al i) ops o fr h' k':=by
 unfold ux at a⊢;split at a
 .exact⟨_,none,a,λh' k' b=>by simpa [FW]using b⟩
 .simp only at a⊢
  unfold rK at a⊢;obtain⟨dst,op,ty,pos,after,gd⟩:=o;cases op<;>simp only[U5]at e<;>(try (cases e;done))
  simp only[uy,vop]at a⊢;cases f:uw P _ with
  |none=>rw[f]at a;exact a.elim
  |some z=>
   rw[f]at a;simp only at a⊢;cases c:z.notTuple with
   |false=>rw[c]at a;exact a.elim
   |true=>
    rw[c]at a;exact⟨_,some (Zu _ z.cells),a,λh' k' b=>by simpa [FW]using b⟩
def zNO{k k':D->Heap->Prop}(a:∀d,k d h->k' d h)(b:ux P mu h0 .qu ops o fr h k):ux P mu h0 .qu ops o fr h k':=by grind [ux,dA]
def zNP{k k':D->Heap->Prop}(b:∀d,k d h->k' d h)(a:ux P mu h0 .sq ops o fr h k):ux P mu h0 .sq ops o fr h k':=by
 unfold ux at a⊢;split at a
 .exact b _ a
 .exact⟨a.1,a.2.imp λS x=>⟨x.1,x.2.1,λd q=>b _ (x.2.2 d q)⟩⟩
theorem Gw{k:D->Heap->Prop}(c:mT P o.op=true)(a:ux P mu h0 .no ops o fr h k):
  ∃d,k d h/\∀(k':D->Heap->Prop),k' d h->ux P mu h0 .no ops o fr h k':=by
 unfold ux at a⊢;split at a
 .grind
 .simp only at a⊢
  unfold rK at a⊢;rw[Xt c]at a⊢;obtain⟨r,hr⟩:=Wm (P:=P) (m:=ZS mu o.dst) (ev:=qz fr) c;simp only[hr]at a⊢;cases b:r h with
  |none=>rw[b]at a;exact a.elim
  |some d=>rw[b]at a;exact⟨d,a,λk' e=>e⟩
theorem Jf{k:D->Heap->Prop}(c:mT P o.op=true)(a:ux P mu h0 (.al i) ops o fr h k):
  ∃d,k d h/\∀(k':D->Heap->Prop),k' d h->ux P mu h0 (.al i) ops o fr h k':=by
 unfold ux at a⊢;split at a
 .grind
 .simp only at a⊢
  unfold rK at a⊢;rw[Xt c]at a⊢;obtain⟨r,hr⟩:=Wm (P:=P) (m:=ZS mu o.dst) (ev:=qz fr) c;simp only[hr]at a⊢;cases b:r h with
  |none=>rw[b]at a;exact a.elim
  |some d=>rw[b]at a;exact⟨d,a,λk' e=>e⟩
def Gx{k:D->Heap->Prop} :ux P mu h0 .sq ops o fr h k↔(uf ops fr o.guard=false/\k rJ h)\/(uf ops fr o.guard=true/\(uy o.op).isSome=true/\∃S:D->Prop,(∃e,S e)/\Kb P h0 o.op (qz fr) S/\∀d,S d->k d h):=by
 unfold ux;cases uf ops fr o.guard<;>simp
def zIu{k:D->Heap->Prop}(b:uy o.op=none)(a:ux P mu h0 .no ops o fr h k):
  ∃d h',k d h'/\∀k',ux P mu h0 .no ops o fr h k'↔k' d h':=by
 unfold ux at a⊢;split at a
 all_goals grind [rK,vop,ZS,qz]
def zCg{z fl2:Bool}(B:fl2=true->z=true){j i:Nat×Fl}(hz:j.2.isAl=true->∀k,h0.at' (h0.next+k)=none){m f:Oper}(Z:ops[j.1]? =some m)(Y:ops[i.1]? =some f)(s:cY P mu ops j i=true){X:Frm->Heap->Prop}
  (p:ux P mu h0 j.2 ops m fr h λe h'=>(z=true->HLe h0 h')/\ux P mu h0 i.2 ops f (nz fr m.dst e) h' λd b=>(fl2=true->HLe h0 b)/\X (nz (nz fr m.dst e) f.dst d) b):
  ux P mu h0 i.2 ops f fr h λd h'=>(fl2=true->HLe h0 h')/\ux P mu h0 j.2 ops m (nz fr f.dst d) h' λe b=>(fl2=true->HLe h0 b)/\X (nz (nz fr f.dst d) m.dst e) b:=by
 unfold cY at s;rw[Z,Y]at s;simp only[zF]at s;obtain⟨G,s⟩:=s;obtain⟨w,T,q⟩:=Oper.apart_spec G;have F:∀t,m.dst=some t->f.dst≠some t:=T;have go:∀d e b,((fl2=true->HLe h0 b)/\X (nz (nz fr m.dst e) f.dst d) b)->(fl2=true->HLe h0 b)/\X (nz (nz fr f.dst d) m.dst e) b:=λd e b o=>by
  rw[GG F]at o;exact o
 by_cases g:L8 j.2 i.2 f=true
 .unfold L8 at g
  simp only[zF,Option.isNone_iff_eq_none]at g;obtain⟨⟨Q,R⟩,q3⟩:=g;have I:i.2=.no:=by
   cases n:i.2<;>rw[n]at R<;>first|rfl|cases R
  have r:j.2=.sq:=by
   cases n:j.2<;>rw[n]at Q<;>first|rfl|cases Q
  rw[I,r]at p⊢;rcases Gx.1 p with⟨H,p⟩ | ⟨H,k0,S,⟨K,A⟩,V,M⟩
  .rw[lU w]at p
   refine bZ (λd h' o=>⟨o.1,?_⟩) p.2;rw[lU q];exact Gx.2 (.inl ⟨H,go _ _ _ o⟩)
  .have C:=(M K A).2
   rw[lU w]at C;obtain⟨d,h1,U,L⟩:=zIu q3 C;rw[L];refine⟨U.1,?_⟩;rw[lU q];refine Gx.2 (.inr ⟨H,k0,S,⟨K,A⟩,V,λe W=> ?_⟩);have D:=(M e W).2;rw[lU w,L]at D;exact go _ _ _ D
 by_cases hq:(j.2.isS1||ry P (ZS mu m.dst) m.op)=true
 .grind [RP,lU,bZ]
 .by_cases c:Rm P mu j.2 i.2 m f=true
  .obtain⟨jn,jf⟩:=j
   obtain⟨ad,N⟩:=i;unfold Rm at c;cases jf<;>simp only at c<;>(try (cases c;done))
   rename_i kj;simp only[zF]at c;obtain⟨p1,O⟩:=c;have v:=hz rfl;obtain⟨e,x,⟨k1,k2⟩,k3⟩:=zIt p1 p;rw[lU w]at k2;by_cases l:(N.isS1||ry P (ZS mu f.dst) f.op)=true
   .obtain⟨d,k4,k5⟩:=RP l k2
    refine k5 h _ ⟨λe=>HLe.of_newO (v _) (k4.1 e),?_⟩;rw[lU q];exact k3 _ _ (go _ _ _ k4)
   .rw[qN]at O
    have E:=O.resolve_left l;cases N<;>simp only at E<;>(try (cases E;done))
    rename_i ki;simp only[zF,dJ,ne_eq]at E;obtain⟨d,y,k4,k5⟩:=zIt E.1 k2;rw[Ho (λe=>E.2 ow)]at k4;refine k5 h _ ⟨λe=>HLe.newO (v _) (HLe.of_newO (v _) (k1 (B e))),?_⟩;rw[lU q];exact k3 _ _ (go _ _ _ k4)
  have u:(j.2.isNo&&mT P m.op&&(i.2.isS1||i.2.isQu||ry P (ZS mu f.dst) f.op||mT P f.op))=true:=by
   rw[qN,qN,qN]at s;exact((s.resolve_right g).resolve_right c).resolve_left hq
  simp only[zF]at u;obtain⟨⟨a,J⟩,u⟩:=u;have r:j.2=.no:=by
   cases n:j.2 with
   |no=>rfl
   |st=>rw[n]at a;cases a
   |sq=>rw[n]at a;cases a
   |qu=>rw[n]at a;cases a
   |al k=>rw[n]at a;cases a
  rw[r]at p⊢;obtain⟨e,⟨k1,k2⟩,k3⟩:=Gw J p;rw[lU w]at k2;by_cases l:(i.2.isS1||ry P (ZS mu f.dst) f.op)=true
  .obtain⟨d,k4,k5⟩:=RP l k2
   refine k5 h _ ⟨λe=>k1 (B e),?_⟩;rw[lU q];exact k3 _ (go _ _ _ k4)
  .cases n:i.2 with
   |st=>rw[n]at l;exact absurd rfl l
   |sq=>
    rw[n]at k2;refine zNP (λd o=>⟨o.1,?_⟩) k2;rw[lU q];exact k3 _ (go _ _ _ o)
   |qu=>
    rw[n]at k2;refine zNO (λd o=>⟨o.1,?_⟩) k2;rw[lU q];exact k3 _ (go _ _ _ o)
   |no=>
    grind [mT,Fl.isS1,Fl.isQu,Gw,lU]
   |al ki=>
    grind [Fl.isS1,Fl.isQu,Jf,lU]
def J7{l:List (Nat×Fl)}{y:Nat×Fl}(i:y∈l)(d:J6 P mu ops l os y.1=true)(x:Nat×Fl):cY P mu ops y x=false:=by
 unfold J6 at d;unfold cY;cases e:ops[y.1]? with
 |none=>rfl
 |some o=>
  rw[e]at d;have b:y.2.isSt=false:=by grind
  have c:y.2.isAl=false:=by grind
  cases ops[x.1]? with
  |none=>rfl
  |some f=>
   have g:Rm P mu y.2 x.2 o f=false:=by
    unfold Rm;cases a:y.2<;>simp only;rw[a]at c;cases c
   have h:y.2.isS1=false/\y.2.isSq=false:=by
    cases a:y.2<;>rw[a]at b<;>first|exact⟨rfl,rfl⟩ |cases b
   grind [L8]
def Fv{l:List (Nat×Fl)}{z:Nat×Fl}(a:J6 P mu ops l (Zo ops.toList 0 []) i=true)(e:z∈l)(c:z.2.isSt=true):clo ops ops.size i z.1=true:=by
 unfold J6 at a;split at a
 .cases a
 .simp only[zF,qH,zb,qN,dJ,ne_eq,zP]at a
  rcases(a.2 z e).1 with b|b
  .rw[c]at b;cases b
  .exact Y2 ow (Zp ops.toList [] [] rfl rfl (λk d=>by simp at d) i b.2.1 z.1 b.2.2)
theorem Dr{i:Nat×Fl}{m:Oper}{o:List (Nat×Fl)}{K:Frm->Heap->Prop}(n:ops[i.1]? =some m):∀(fl:Bool)(b:List (Nat×Fl))(fr:Frm)(h:Heap),(∀j∈b,cY P mu ops j i=true/\bk j.1=false/\(j.2.isAl=true->∀k,h0.at' (h0.next+k)=none))->
  mF P mu h0 bk ops fl (b++i::o) K fr h->ux P mu h0 i.2 ops m fr h λd h'=>((fl&& !bk i.1)=true->HLe h0 h')/\mF P mu h0 bk ops (fl&& !bk i.1) (b++o) K (nz fr m.dst d) h'
 |fl,[],fr,h,_,a=>by grind [mF]
 |fl,(j,s)::b,fr,h,c,a=>by
  simp only[zq,mF]at a;cases l:ops[j]? with
  |none=>rw[l]at a;exact a.elim
  |some r=>
   rw[l]at a;have g:bk j=false:=(c (j,s) jS).2.1;simp only[g,sN,pF]at a;have h1:=bZ (λe h' f=>And.intro f.1 (Dr n fl b (nz fr r.dst e) h' (λk q=>c k (by simp[q])) f.2)) a;have p:=zCg (fl2:=fl&& !bk i.1) (λe=>by simp only[zF]at e;exact e.1) (j:=(j,s)) (c (j,s) jS).2.2 l n (c (j,s) jS).1 h1;refine bZ (λd h' f=>⟨f.1,?_⟩) p
   grind [mF]
theorem V4{listed:Array Bool}(a:∀k o,ops[k]? =some o->listed.getD k true=true->∀e∈o.after,Region.binds .any e=true->listed.getD e.on false=true):
  ∀(n i j:Nat)(o:Oper),ops[i]? =some o->(∀e∈o.after,Region.binds .any e=true->listed.getD e.on false=true)->clo ops n i j=true->listed.getD j false=true
 |0,_,_,_,_,_,h=>by simp[clo]at h
 |n+1,i,j,o,l,m,h=>by
  simp only[clo,l,lm,zF,qN,qj]at h;obtain⟨e,g,f,h⟩:=h;have h1:=m e (by simpa using g) f;rcases h with h|h
  .rw[<-h];exact h1
  .cases b:ops[e.on]? with
   |none=>
    cases n with
    |zero=>simp[clo]at h
    |succ n=>simp[clo,b]at h
   |some c=>
    have d:listed.getD e.on true=true:=by grind
    exact V4 a n e.on j c b (a e.on c b d) h
end
theorem sW(h:Heap)(i:Nat)(o:Obj):h.next<=(h.new i o).next:=Nat.le_max_left _ _
variable{P:Program}{h0:Heap}
def RT{e:TypeId}{s d:D}{ys:List D}(a:tt P m nid e sz k s ys h=some (d,h')):h.next<=h'.next:=by
 unfold tt at a;split at a
 .grind [sW]
 .split at a
  .split at a
   .cases a
   .grind [sW]
   .split at a
    .split at a
     .cases a
     .cases a;exact sW (h.del _) _ _
    .cases a
  .cases a
 .split at a
  .split at a
   .split at a
    .cases a;exact sW (h.del _) _ _
    .cases a
   .split at a
    .cases a
    .split at a
     .cases a;exact sW (h.del _) _ _
     .cases a
   .cases a
  .cases a
 .cases a
def Yn{s x d:D}(a:qg P m nid t s x h=some (d,h')):h.next<=h'.next:=by
 unfold qg at a;split at a
 .cases a
 .split at a
  .split at a
   .cases a
   .exact RT a
  .cases a
def Pg(s x:D)(h:Heap):(t6 s x h).next=h.next:=by
 unfold t6;split
 .split
  .rfl
  .split
   .split<;>rfl
   .rfl
 .rfl
def RU{s x d:D}(a:md P m nid t s x h=some (d,h')):h.next<=h'.next:=by
 unfold md at a;split at a
 .rw[<-Pg s x h];exact Yn a
 .exact Yn a
theorem W9{s x d:D}(a:me P m nid t u s x h=some (d,h')):∃o,h'=h.new nid o:=by
 unfold me at a;split at a
 .split at a
  all_goals grind
 .cases a
def RV{s x d:D}(a:me P m nid t u s x h=some (d,h')):h.next<=h'.next:=by grind [W9,sW]
def ZO(a:jU P t x y h=some (d,h')):(∃id,x=.ptr id 0/\h'=h.del id)\/(x=.nilptr/\h'=h):=by
 unfold jU at a;split at a
 .split at a
  .split at a
   .split at a
    all_goals grind [XS]
   all_goals grind
  .cases a
 .cases a
def fy(a:uH P t x y z h=some h'):h.next<=h'.next:=by
 unfold uH at a;split at a
 .cases a
 .split at a
  .split at a
   .split at a
    .split at a
     .split at a
      .cases a;exact zD _
      .cases a
     .cases a
    .cases a
   .cases a
  .cases a
def Ph(a:lW P t x h=some h'):h'=h\/(∃id sz off n cs,x=.rs id sz off n/\h'=h.set id (.row cs))\/∃id,x=.map id/\h'=h.set id (.map []):=by
 unfold lW at a;split at a
 all_goals grind
def MR(a:lW P t x h=some h'):h.next<=h'.next:=by
 rcases Ph a with rfl| ⟨_,_,_,_,_,_,rfl⟩ | ⟨_,_,rfl⟩ <;>exact zD _
def KQ(a:Vl x b h=some (d,h')):h'=h\/∃id off o,x=.ptr id off/\h'=h.set id o:=by
 unfold Vl at a
 grind
def Pk(a:VE P nid t x h=some (d,h')):∃o,h'=h.new nid o:=by
 unfold VE at a
 grind
def KR{o:Op}(a:vop P m nid o ev h=some (d,h')):h.next<=h'.next:=by
 by_cases i:ry P m o=true
 .obtain⟨r,hr⟩:=mj (P:=P) (ev:=ev) i
  rw[hr]at a;obtain⟨e,_,f⟩:=we a;cases f;exact zD _
 .by_cases g:mT P o=true
  .obtain⟨r,hr⟩:=Wm (P:=P) (m:=m) (ev:=ev) g
   rw[hr]at a;obtain⟨e,_,f⟩:=we a;cases f;exact zD _
  .cases o<;>simp only[ry,mT]at i g<;>simp only[vop]at a<;>(try (exact absurd rfl i;done))<;>(try (exact absurd trivial i;done))<;>(try (exact absurd rfl g;done))<;>(try (exact absurd trivial g;done))<;>(try (cases a;done))
   case convert s d x=>
    obtain⟨e,_,f⟩:=we a;cases f;exact zD _
   case alloc t=>
    split at a
    .split at a
     .cases a;exact sW _ _ _
     .cases a
    .cases a
   case box t x=>
    split at a
    .split at a
     .cases a;exact sW _ _ _
     .cases a;exact zD _
    .cases a
   case buildSlice t n ps=>
    unfold yA at a;split at a
    .cases a
    .split at a
     .cases a
     .dsimp only at a
      split at a
      .split at a
       .cases a
       .split at a
        .cases a;exact sW _ _ _
        .cases a;exact zD _
      .cases a
   case store t x y=>
    obtain⟨e,h1,f⟩:=we a;cases f;unfold yR at h1;split at h1
    .split at h1
     .split at h1
      .cases h1;exact zD _
      .cases h1
     .split at h1
      .cases h1;exact zD _
      .cases h1
     .cases h1
    .cases h1
   case range t x=>obtain⟨o,rfl⟩:=Pk a;exact sW _ _ _
   case next x b=>rcases KQ a with rfl| ⟨_,_,_,_,rfl⟩ <;>exact zD _
   case makeMap t r=>
    split at a
    .cases a;exact sW _ _ _
    .cases a
   case makeSlice t x y=>
    unfold uk at a;split at a
    .split at a
     .dsimp only at a
      split at a
      .split at a
       .cases a;exact sW _ _ _
       .cases a;exact zD _
      .cases a
     .cases a
    .cases a
   case mapUpdate t x y z=>
    obtain⟨e,h1,f⟩:=we a;cases f;exact fy h1
   case insert t x y z=>
    obtain⟨e,h1,f⟩:=we a;cases f;exact fy h1
   case call c=>
    split at a
    .rename_i b j
     unfold mf at a;cases b<;>simp only at a<;>(try (cases a;done))
     all_goals(try (rw[j]at i;exact absurd rfl i))
     .split at a
      .split at a
       .split at a
        .exact RU a
        .exact RV a
       .cases a
      .cases a
     .split at a
      .split at a
       .split at a
        .split at a
         .cases a;exact zD _
         .cases a
        .cases a
       .cases a
      .cases a
     .split at a
      .split at a
       .obtain⟨e,h1,f⟩:=we a
        cases f;exact MR h1
       .cases a
      .cases a
     .split at a
      .split at a
       .rcases ZO a with⟨_,_,rfl⟩ | ⟨_,rfl⟩ <;>exact zD _
       .cases a
      .cases a
    .cases a
def Fr(ro:Option Nat):Fence:= { fn:=λ_=>True,depth:=none,alive:=false,round:=ro }
structure Ctx(P:Program) where
 w0:Base
 G:List Nat
 M:Imm
 ρ:Ren
 good:Rg P w0
def Q5(b:Nat):Deferred:= { target:=.collected b,args:= #[] }
def St{P:Program}(c:Ctx P)(ms:List Nat)(n:Nat)(fr:Frm)(h:Heap)(a:Act)(w:World):Prop:=
 ∃M ρ,MLe c.M M/\RLe c.ρ ρ/\Sim c.w0 (ms++c.G) M ρ h w/\km ρ h.next/\UV M ρ fr a.tmps/\a.defers=ms.map Q5/\a.tmps.size=n
def Yt(n:Nat):Option Tmp->Bool
 |some t=>decide (t<n)
 |none=>true
section
variable{P:Program}{mu:Tmp->Bool}{c:Ctx P}{ms:List Nat}{n:Nat}{fr:Frm}{h:Heap}{a:Act}{w:World}{Q:Exit->Act->World->Prop}{ro:Option Nat}{ops:Array Oper}
def XM{t:Tmp}(hf:UV M ρ fr tmps)(hr:rel M ρ d v)(b:t<tmps.size):UV M ρ (nz fr (some t) d) (tmps.setIfInBounds t v):=by
 intro i;have a:=hf i;simp only[nz];by_cases h:i=t
 .simp_all [Array.getD]
 .simp only[h,yr]
  have:(tmps.setIfInBounds t v).getD i undef=tmps.getD i undef:=by
   simp only[uN,Array.getElem?_setIfInBounds_ne (gq h)]
  rw[this];exact a
def jM(hM:MLe M M')(hr:RLe ρ ρ')(hf:UV M ρ fr tmps):UV M' ρ' fr tmps:=λi=>tL hM hr _ _ (hf i)
theorem St.put{dst:Option Tmp}(h:Yt n dst=true)(h1:MLe c.M M)(e:RLe c.ρ ρ)(h3:Sim c.w0 (ms++c.G) M ρ h' w')(f:km ρ h'.next)(h5:UV M ρ fr a.tmps)
  (g:a.defers=ms.map Q5) (b:a.tmps.size=n) (hr:rel M ρ d v):St c ms n (nz fr dst d) h' (a.put dst v) w':=by
 refine⟨M,ρ,h1,e,h3,f,?_,?_,?_⟩
 .cases dst with
  |none=>exact h5
  |some t=>exact XM h5 hr (by simpa [Yt,b]using h)
 .cases dst<;>exact g
 .cases dst with
  |none=>exact b
  |some t=>simpa [Act.put]using b
def N7(hr:rel M ρ d (.bool b)):d=.bool b:=by
 cases d<;>simp only[rel]at hr
 case bool=>cases hr;rfl
 all_goals first
  |(cases hr;done)
  |(obtain⟨hr,_⟩:=hr;cases hr;done)
  |(obtain⟨_,hr,_⟩:=hr;cases hr;done)
  |(obtain⟨_,_,hr⟩:=hr;cases hr;done)
  |(obtain⟨_,_,hr,_⟩:=hr;cases hr;done)
  |(obtain⟨_,_,_,hr,_⟩:=hr;cases hr;done)
  |(obtain⟨_,_,_,_,_,⟨_,hr,_⟩,_⟩:=hr;cases hr;done)
  |(obtain⟨_,_,_,_,_,hr,_⟩:=hr;cases hr;done)
  |(obtain⟨_,_,_,_,_,_,hr,_⟩:=hr;cases hr;done)
theorem JE(hf:UV M ρ fr a.tmps):Region.wanted o (yielded ops a.tmps)=uf ops fr o.guard:=by
 unfold Region.wanted uf;cases o.guard with
 |none=>rfl
 |some h=>
  obtain⟨g,f⟩:=h;simp only;unfold yielded;cases i:(ops[g]?).bind (·.dst)with
  |none=>rfl
  |some t=>
   simp only[rC];have c:=hf t;rw[uN]at c;cases e:a.tmps[t]? with
   |none=>
    rw[e]at c;cases d:fr t with
    |bool b=>rw[d]at c;cases c
    |_=>rfl
   |some v=>
    rw[e]at c;cases v with
    |bool b=>rw[N7 c];simp[eq_comm]
    |_=>
     cases d:fr t with
     |bool b=>rw[d]at c;cases c
     |_=>rfl
def QY{g:FuncId}(a:pU P g=true):∃fn,P.funcs[g]? =some fn/\fn.body.isSome=true/\(fn.name== "runtime.NumGoroutine")=false:=by grind [pU]
def Yg{g:FuncId}(b:pU P g=true)(args:Array Value)(w:World):(callFunc g args).run P w=.ok (.enter g args) w:=by
 obtain⟨fn,h1,d,h3⟩:=QY b;have c:(program).run P w=.ok P w:=rfl;have a:fn.body.isNone=false:=by simp_all
 simp only[callFunc,zz,c,zd,h1,h3,a,zf,yr,yU]
theorem St.op{k:D->Heap->Prop}{C:Act->World->Prop}(hs:St c ms n fr h a w)(q:Nt o.op=true)(U:Yt n o.dst=true)(b:rK P m h.next o.op (qz fr) h k)
  (I:∀d h' O p,St c ms n (nz fr o.dst d) h' O p->k d h'->C O p):o.wpIn (Fr ro) 0 P a w C Q:=by
 obtain⟨M,ρ,h1,R,h3,B,h5,S,T⟩:=hs;refine⟨λ_ _=>trivial,?_⟩;have J:∀c,o.op≠ .defer c:=by grind [rK,uy,vop]
 rw[Oper.semAt_eq _ _ _ J];unfold rK at b;split at b
 .rename_i f args z
  unfold uy at z;split at z
  .rename_i y x
   split at z
   .rename_i f' u
    cases z;have r:Ar f=true/\y.args.toList.all Ar=true:=by
     unfold Nt at q;rw[x]at q;simp only[Op.operands,Call.operands,u]at q
     grind
    have K:=ab h5 r.1;have Y:wI M ρ (y.args.toList.map (qz fr)) (y.args.map a.eval).toList:=by rw[uX];exact fW h5 r.2
    have post:∀e p,Ret c.w0 (ms++c.G) M ρ k e p->∃v,e=.returned v/\C (a.put o.dst v) p:=by
     rintro e p ⟨v,M',ρ',d,h',rfl,W,X,q3,q4,q5,q6⟩;exact⟨v,rfl,I d h' _ _ (St.put U (h1.trans W) (R.trans X) q3 q4 (jM W X h5) S T q5) q6⟩
    cases H:qz fr f<;>rw[H]at b K<;>simp only[YL]at b
    .rename_i g first cap
     cases g<;>simp only at b;rename_i g;obtain⟨_,Z,vc,E,L,N⟩:=K;have j:(execOp a.eval o).run P w=.ok (.enter g (Z++y.args.map a.eval++vc)) w:=by
      simp only[execOp,x,resolve,u,E,Deferred.ofValue,zz,yU,zd,invoke,Yg b.1]
     rw[j];refine⟨λe=>(by cases e),?_⟩;have t:=b.2 c.w0 (ms++c.G) M ρ w (Z++y.args.map a.eval++vc) c.good h3 B (by simp only[ml];exact tE (tE L Y) N);refine CallsIn.mono (F:=Fr ro) (n:=0-1) (YS.2 t) λe p he=> ?_
     grind
    .rename_i id
     obtain⟨l,hl,E⟩:=K;obtain⟨g,tmps,as,body,y1,y2⟩:=b c.w0 (ms++c.G) M ρ w (y.args.map a.eval) l c.good h3 B Y hl;have j:(execOp a.eval o).run P w=.ok (.round l.blk g tmps as body) w:=by
      simp only[execOp,x,resolve,u,E,Deferred.ofValue,zz,yU,zd,invoke];simpa using y1
     rw[j];refine⟨λe=>(by cases e),?_⟩;refine RoundIn.mono (F:=Fr ro) (n:=0-1) y2 λe p he=> ?_
     grind
   .cases z
  .cases z
 .split at b
  .rename_i d h' s
   obtain⟨nx,v,p,M',ρ',k1,k2,k3,k4,k5,k6,k7⟩:=Ay h3 (B h.next (zD _)) h5 q s;have A:St c ms n (nz fr o.dst d) h' (a.put o.dst v) p:=by
    refine St.put U (h1.trans k3) (R.trans k4) k6 (λi V=> ?_) (jM k3 k4 h5) S T k7;rw[k5 i (.inl V)];exact B i (zY (KR s) V)
   rw[k1];rcases k2 with rfl| ⟨rfl,rfl⟩
   .exact I d h' _ _ A b
   .exact I d h' _ _ A b
  .exact b.elim
end
def N4(n:Nat)(ops:Array Oper):Bool:=ops.toList.all λo=>Nt o.op&&Yt n o.dst
section
variable{P:Program}{mu:Tmp->Bool}{c:Ctx P}{ms:List Nat}{n:Nat}{fr:Frm}{h h0:Heap}{a:Act}{w:World}{Q:Exit->Act->World->Prop}{ro:Option Nat}{ops:Array Oper}{fl:Bool}{K:Frm->Heap->Prop}
def Wn(a:N4 n ops=true)(b:ops[i]? =some o):Nt o.op=true/\Yt n o.dst=true:=by grind [N4,Nt,Yt]
def St.skip{dst:Option Tmp}(b:Yt n dst=true)(d:St c ms n fr h a w):St c ms n (nz fr dst rJ) h (a.put dst undef) w:=by grind [St.put,fX,Yt,St,nz,rJ]
def St.wanted(b:St c ms n fr h a w):Region.wanted o (yielded ops a.tmps)=uf ops fr o.guard:=by grind [JE,St,uf]
theorem Ux(b : N4 n ops = true)(f : ∀ fr h a w, St c ms n fr h a w -> K fr h -> Q .normal a w) : ∀(rest pre : List Oper), ops.toList = pre ++ rest -> ∀ fr h a w, St c ms n fr h a w -> VO P mu ops rest K fr h ->
      wpOpsIn (Fr ro) 0 P ops Q (List.range' pre.length rest.length) a w
  | [], pre, _, fr, h, a, w, e, d => by
    exact f _ _ _ _ e d
  | o :: rest, pre, g, fr, h, a, w, e, d => by
    have i : ops[pre.length]? = some o := by rw [<- qo, g]; simp
    obtain ⟨k1, k2⟩ := Wn b i;have j := Ux b f rest (pre ++ [o]) (by simp [g]);rw [zS, wX]at j;rw [zu, List.range'_succ];simp only [wpOpsIn, i, e.wanted];simp only [VO]at d;cases hg : uf ops fr o.guard with
    | true =>
      grind [St.op]
    | false =>
      rw [hg]at d;exact ⟨λ_ _ => trivial, j _ _ _ _ (e.skip k2) d⟩
def StU{P:Program}(c:Ctx P)(U:Nat->Prop)(ms:List Nat)(n:Nat)(fr:Frm)(h:Heap)(a:Act)(w:World):Prop:=
 ∃M ρ,MLe c.M M/\RLe c.ρ ρ/\Sim c.w0 (ms++c.G) M ρ h w/\km ρ h.next/\UV M ρ fr a.tmps/\a.defers=ms.map Q5/\a.tmps.size=n/\∀i,U i->i<h.next/\ρ i=none
def StU.st(b:StU c U ms n fr h a w):St c ms n fr h a w:=by grind [StU,St]
def St.stu(b:∀i,¬U i)(d:St c ms n fr h a w):StU c U ms n fr h a w:=by grind [St,StU]
def StU.less(b:∀i,S0 i->U i)(d:StU c U ms n fr h a w):StU c S0 ms n fr h a w:=by grind [StU]
def StU.skip{dst:Option Tmp}(i:Yt n dst=true)(j:StU c U ms n fr h a w):StU c U ms n (nz fr dst rJ) h (a.put dst undef) w:=by
 obtain⟨M,ρ,h1,d,h3,e,h5,f,b,g⟩:=j;refine⟨M,ρ,h1,d,h3,e,?_,?_,?_,g⟩
 .cases dst with
  |none=>exact h5
  |some t=>exact XM h5 fX (by simpa [Yt,b]using i)
 .cases dst<;>exact f
 .cases dst with
  |none=>exact b
  |some t=>simpa [Act.put]using b
def StU.op{k:D->Heap->Prop}{u:Act->World->Prop}(H:StU c U ms n fr h a w)(s:Nt o.op=true)(A:Yt n o.dst=true)(F:uy o.op=none)(f:nid=h.next\/U nid)(e:rK P m nid o.op (qz fr) h k)
  (B:∀d h' x p,StU c (λi=>U i/\i≠nid) ms n (nz fr o.dst d) h' x p->k d h'->u x p):o.wpIn (Fr ro) 0 P a w u Q:=by
 obtain⟨M,ρ,h1,C,h3,y,h5,E,q,z⟩:=H;refine⟨λ_ _=>trivial,?_⟩;have r:∀c,o.op≠ .defer c:=by grind [rK,uy,vop]
 rw[Oper.semAt_eq _ _ _ r];unfold rK at e;rw[F]at e;simp only at e;split at e
 .rename_i d h' b
  have J:ρ nid=none:=by
   rcases f with rfl|I
   .exact y _ (zD _)
   .exact(z _ I).2
  obtain⟨L,v,p,M',K,k1,k2,k3,k4,k5,k6,k7⟩:=Ay h3 J h5 s b;have g:=KR b;have j:StU c (λi=>U i/\i≠nid) ms n (nz fr o.dst d) h' (a.put o.dst v) p:=by
   refine⟨M',K,h1.trans k3,C.trans k4,k6,λi l=> ?_,?_,?_,?_,λi l=>⟨zl (z i l.1).1 g,?_⟩⟩
   .rw[k5 i (.inl l)]
    exact y i (zY g l)
   .cases G:o.dst with
    |none=>exact jM k3 k4 h5
    |some t=>exact XM (jM k3 k4 h5) k7 (by rw[G]at A;simpa [Yt,q]using A)
   .cases o.dst<;>exact E
   .cases o.dst with
    |none=>exact q
    |some t=>simpa [Act.put]using q
   .grind
  rw[k1];rcases k2 with rfl| ⟨rfl,rfl⟩
  .exact B d h' _ _ j e
  .exact B d h' _ _ j e
 .exact e.elim
def zBn(b:Nat)(l:List (Nat×Fl))(i:Nat):Prop:=∃x∈l,∃k,x.2=.al k/\i=b+k
def StU.ux{st:Fl}{k:D->Heap->Prop}{x:Act->World->Prop}(r:StU c U ms n fr h a w)(b:ops[i]? =some o)(u:N4 n ops=true)(C:st.isSt=true->HLe h0 h)(s:uy o.op=none)(v:∀k,st=.al k->U (h0.next+k))(g:ux P mu h0 st ops o fr h k)
  (t:∀d h' m p,StU c (λi=>U i/\∀k,st=.al k->i≠h0.next+k) ms n (nz fr o.dst d) h' m p->k d h'->x m p):wpOpIn (Fr ro) 0 P ops Q i x a w:=by
 obtain⟨k1,k2⟩:=Wn u b;have q:∀i,U i->i<h.next:=λi b=>let ⟨_,_,_,_,_,_,_,_,_,h8⟩:=r;(h8 i b).1
 unfold wpOpIn;simp only[b,r.st.wanted];unfold V.ux at g;cases y:uf ops fr o.guard with
 |false=>
  rw[y]at g;simp only[zf,yr];exact⟨λ_ _=>trivial,t _ _ _ _ ((r.skip k2).less λi b=>b.1) g⟩
 |true=>
  rw[y]at g;simp only[qK];cases st with
  |no=>exact r.op k1 k2 s (.inl rfl) g λd h' m p f l=>t d h' m p (f.less λi b=>⟨b.1,λe=>YJ (q i b.1) e⟩) l
  |qu=>
   refine r.op k1 k2 s (.inl rfl) g λz h' m p f l=> ?_;obtain⟨rfl,l⟩:=l;exact t _ _ _ _ (f.less λi b=>⟨b.1,λe=>YJ (q i b.1) e⟩) l
  |st=>
   obtain⟨d,A,B⟩:=g;refine r.op k1 k2 s (.inl rfl) (A h (C rfl)) λz h' m p f l=> ?_;obtain⟨rfl,rfl⟩:=l;exact t _ _ _ _ (f.less λi b=>⟨b.1,λe=>YJ (q i b.1) e⟩) B
  |sq=>rw[s]at g;cases g.1
  |al j=>
   exact r.op k1 k2 s (.inr (v j rfl)) g λd h' m p f l=>t d h' m p (f.less λi b=>⟨b.1,b.2 j rfl⟩) l
def St.ux{st:Fl}{k:D->Heap->Prop}{u:Act->World->Prop}(g:St c ms n fr h a w)(t:st.isAl=false)(y:ops[i]? =some o)(p:N4 n ops=true)(z:st.isSt=true->HLe h0 h)(f:ux P mu h0 st ops o fr h k)
  (m:∀d h' l q,St c ms n (nz fr o.dst d) h' l q->k d h'->u l q):wpOpIn (Fr ro) 0 P ops Q i u a w:=by
 obtain⟨k1,k2⟩:=Wn p y;unfold wpOpIn;simp only[y,g.wanted];unfold V.ux at f;cases x:uf ops fr o.guard with
 |false=>
  rw[x]at f;simp only[zf,yr];exact⟨λ_ _=>trivial,m _ _ _ _ (g.skip k2) f⟩
 |true=>
  rw[x]at f;simp only[qK];cases st with
  |no=>exact St.op g k1 k2 f m
  |qu=>
   refine St.op g k1 k2 f λv h' l q b e=> ?_;obtain⟨rfl,e⟩:=e;exact m _ _ _ _ b e
  |st=>
   obtain⟨d,r,s⟩:=f;refine St.op g k1 k2 (r h (z rfl)) λv h' l q b e=> ?_;obtain⟨rfl,rfl⟩:=e;exact m _ _ _ _ b s
  |sq=>
   obtain⟨_,S,_,r,s⟩:=f;refine St.op g k1 k2 (r h (z rfl)) λv h' l q b e=> ?_;obtain⟨e,rfl⟩:=e;exact m _ _ _ _ b (s _ e)
  |al j=>cases t
theorem PF{i:Nat×Fl}{c:List (Nat×Fl)} :∀{a:List (Nat×Fl)},Tu P mu ops (a++i::c)=true->Tu P mu ops (a++c)=true/\∀j∈a,(clo ops ops.size i.1 j.1||cY P mu ops j i)=true
 | [],b=>by grind [Tu]
 |j::a,b=>by
  simp only[zq,Tu,zF,uO,um]at b⊢;obtain⟨⟨h1,g,h3⟩,d⟩:=b;obtain⟨e,f⟩:=PF d
  grind
theorem Pd{i:Nat×Fl}{c:List (Nat×Fl)} :∀{b:List (Nat×Fl)},RO ops (b++i::c)=true->RO ops (b++c)=true
 | [],a=>by grind [RO]
 |j::b,a=>by
  simp only[zq,RO,zF]at a⊢;refine⟨?_,Pd a.2⟩;have h1:=a.1;cases d:ops[j.1]? with
  |none=>rw[d]at h1;cases h1
  |some o=>
   grind
def zCt(h0:Heap)(ops:Array Oper)(l:List (Nat×Fl)):Prop:=
 (∀x∈l,x.2.isAl=false)\/((∀(i:Nat)(o:Oper),ops[i]? =some o->uy o.op=none)/\(∀x∈l,∀y∈l,∀k,x.2=.al k->y.2=.al k->x.1=y.1)/\∀k,h0.at' (h0.next+k)=none)
def zCt.less{l a:List (Nat×Fl)}(b:∀x∈a,x∈l):zCt h0 ops l->zCt h0 ops a
 :=by grind [zCt]
theorem MT{bk : Nat -> Bool}(L : N4 n ops = true)(hK : ∀ fr h a w, St c ms n fr h a w -> K fr h -> Q .normal a w) : ∀(fuel : Nat)(fl : Bool)(l : List (Nat × Fl))(listed : Array Bool)(fr : Frm)(h : Heap)(a : Act)(w : World),
      l.length <= fuel -> (l.map (·.1)).Nodup -> (∀ i, i < ops.size -> (listed.getD i true = false ↔ i ∈ l.map (·.1))) -> listed.size = ops.size ->
      (∀ k o, ops[k]? = some o -> listed.getD k true = true -> ∀ e ∈ o.after, Region.binds .any e = true -> listed.getD e.on false = true) ->
      Tu P mu ops l = true -> RO ops l = true -> (fl = true -> HLe h0 h) -> (∀ x ∈ l, x.2.isSt = true -> fl = true) -> (∀ y ∈ l, bk y.1 = true -> ∀ x, cY P mu ops y x = false) -> (∀ x ∈ l, bk x.1 = true -> ∀ z ∈ l, z.2.isSt = true -> clo ops ops.size x.1 z.1 = true) -> zCt h0 ops l -> StU c (zBn h0.next l) ms n fr h a w -> mF P mu h0 bk ops fl l K fr h ->
      wpAnyIn (Fr ro) 0 P .any ops Q fuel listed a w := by
  have t : ∀(l : List (Nat × Fl))(listed : Array Bool)(j : Nat × Fl)(l' : List (Nat × Fl)), l = j :: l' -> (∀ i, i < ops.size -> (listed.getD i true = false ↔ i ∈ l.map (·.1))) -> listed.size = ops.size -> RO ops l = true -> j.1 ∈ Region.ready .any ops listed := by
    intro l listed j l' hl b u p;subst hl;simp only [RO, zF]at p;have h1 := p.1;cases H : ops[j.1]? with
    | none => rw [H]at h1; cases h1
    | some o =>
      rw [H]at h1;have C : j.1 < ops.size := (yS.1 H).1;refine mem_ready.2 ⟨(b j.1 C).2 jS, o, H, λe he Y => ?_⟩;simp only [Array.all_eq_true', qN, qH, zF, zP]at h1
      grind
  intro fuel
  induction fuel with
  | zero =>
    intro fl l listed fr h a w I V b u s J p U S O ad f hs hv
    have : l = [] := yN.1 ow;subst this;refine ⟨?_, hK _ _ _ _ hs.st hv⟩;cases hr : Region.ready .any ops listed with
    | nil => rfl
    | cons i rs =>
      have T : i ∈ Region.ready .any ops listed := by rw [hr]; simp
      obtain ⟨h1, o, G, _⟩ := mem_ready.1 T;have := (b i (yS.1 G).1).1 h1;simp at this
  | succ fuel ih =>
    intro fl l listed fr h a w I V b u s J p U S O ad f hs hv;refine ⟨λhr => ?_, λi T => ?_⟩
    · cases l with
      | nil => exact hK _ _ _ _ hs.st hv
      | cons j l' =>
        have := t _ listed j l' rfl b u p;rw [hr]at this; cases this
    · obtain ⟨h1, o, G, h3⟩ := mem_ready.1 T
      have C := (yS.1 G).1;have hm := (b i C).1 h1;obtain ⟨x, hx, rfl⟩ := zN.1 hm;obtain ⟨v, F, rfl⟩ := List.append_of_mem hx;obtain ⟨o1, o2⟩ := PF J;have aj : ∀ j : Nat × Fl, j ∈ v ++ x :: F -> clo ops ops.size x.1 j.1 = true -> False := λj H g => by
        have hl := V4 s ops.size x.1 j.1 o G h3 g;have A : j.1 < listed.size := by
          by_cases Y : j.1 < listed.size
          · exact Y
          · simp [Y]at hl
        have hf := (b j.1 ow).2 (zN.2 ⟨j, H, rfl⟩);simp [A]at hl hf;rw [hl]at hf; cases hf
      have a1 : ∀ j ∈ v, cY P mu ops j x = true /\ bk j.1 = false /\ (j.2.isAl = true -> ∀ k, h0.at' (h0.next + k) = none) := λj H => by
        have A : j ∈ v ++ x :: F := by simp [H]
        rcases qN _ _ ▸ o2 j H with g | g
        · exact (aj j A g).elim
        · refine ⟨g, ?_⟩
          refine ⟨?_, λha => ?_⟩
          · cases R : bk j.1 with
            | false => rfl
            | true => rw [O j A R x]at g; cases g
          · rcases f with f | f
            · rw [f j A]at ha; cases ha
            · exact f.2.2
      have Y := Dr G fl v fr h a1 hv;have D : ((v ++ F).map (·.1)).Nodup /\ x.1 ∉ (v ++ F).map (·.1) := by
        simp only [qf, qV]at V ⊢;have := (List.perm_middle (a := x.1) (l₁ := v.map (·.1)) (l₂ := F.map (·.1))).nodup_iff.1 V;exact ⟨(oS.1 this).2, (oS.1 this).1⟩
      have m : ∀ y, y ∈ v ++ F -> y ∈ v ++ x :: F := λy r => by simp at r ⊢; rcases r with r | r <;> simp [r]
      have pick : ∀{KC : Act -> World -> Prop}, (∀ d h' N X, StU c (zBn h0.next (v ++ F)) ms n (nz fr o.dst d) h' N X -> (((fl && !bk x.1) = true -> HLe h0 h') /\ mF P mu h0 bk ops (fl && !bk x.1) (v ++ F) K (nz fr o.dst d) h') -> KC N X) -> wpOpIn (Fr ro) 0 P ops Q x.1 KC a w := λB => by
        rcases f with f | ⟨m1, m2, m3⟩
        · exact St.ux hs.st (f x hx) G L (λe => U (S x hx e)) Y λd h' N X E Z => B d h' N X (E.stu λi T => by
            obtain ⟨y, r, k, B, _⟩ := T;have := f y (m y r);rw [B]at this; cases this) Z
        · exact StU.ux hs G L (λe => U (S x hx e)) (m1 _ _ G) (λk B => ⟨x, hx, k, B, rfl⟩) Y λd h' N X E Z => B d h' N X (E.less λi T => by
            obtain ⟨y, r, k, B, rfl⟩ := T;refine ⟨⟨y, m y r, k, B, rfl⟩, λk' ak e => ?_⟩;have au : k = k' := by omega
            subst au;exact D.2 (zN.2 ⟨y, r, m2 y (m y r) x hx k B ak⟩)) Z
      refine pick λd h' N X E Z => ?_;refine ih _ (v ++ F) _ _ _ _ _ (by simp at I ⊢; omega) D.1 (λk B => ?_) (by simpa using u) (λk ok W ai e he ag => ?_) o1 (Pd p) Z.1 (λy r a2 => ?_) (λy r => O y (m y r)) (λy r R z hz => ad y (m y r) R z (m z hz)) (f.less m) E Z.2
      · by_cases hkx : k = x.1
        · subst hkx
          have : (listed.setIfInBounds x.1 true).getD x.1 true = true := by simp [u, C]
          rw [this];constructor
          · intro e; cases e
          · intro e; exact absurd e D.2
        · rw [WA true (gq hkx), b k B]
          simp only [qf, qV, yv, yE];constructor
          · rintro (g | g | g)
            · exact .inl g
            · exact absurd g hkx
            · exact .inr g
          · rintro (g | g)
            · exact .inl g
            · exact .inr (.inr g)
      · have M : ∀ q, listed.getD q false = true -> (listed.setIfInBounds x.1 true).getD q false = true := λq a0 => by
          by_cases hqx : q = x.1
          · subst hqx; simp [u, C]
          · rw [WA false (gq hqx)]; exact a0
        by_cases hkx : k = x.1
        · subst hkx
          rw [G]at W; cases W;exact M _ (h3 e he ag)
        · rw [WA true (gq hkx)]at ai
          exact M _ (s k ok W ai e he ag)
      · grind
end
structure Cfg where
 mu:Tmp->Bool
 dr:Nat->List (Nat×Fl)
def bX(K:Frm->Heap->Prop)(Q:Exit->Frm->Heap->Prop)(e:Exit)(fr:Frm)(h:Heap):Prop:=
 match e with
 |.normal=>K fr h
 |e=>Q e fr h
def bp(id:Nat)(Q:Exit->Frm->Heap->Prop)(e:Exit)(fr:Frm)(h:Heap):Prop:=
 match e with
 |.exit i=>if i=id then Q .normal fr h else Q (.exit i) fr h
 |e=>Q e fr h
def zIf(Q:Exit->Frm->Heap->Prop)(e:Exit)(fr:Frm)(h:Heap):Prop:=
 match e with
 |.goto _=>False
 |e=>Q e fr h
def Va(p:Option Code)(Q:Exit->Frm->Heap->Prop)(fr:Frm)(h:Heap):Prop:=
 match p with
 |none=>Q .normal fr h
 |some c=>match c with
  |.ret=>Q .ret fr h
  |.exit i=>Q (.exit i) fr h
  |_=>False
def VFn(P:Program)(f:D)(args:List D)(h:Heap)(Q:D->Heap->Prop):Prop:=
 match f with
 |.fn g first cap=>match g with
  |.func g=>zE P g (first++args++cap) h Q
  |_=>False
 |_=>False
def vwp(P:Program)(g:Cfg)(n:Nat)(ro:Option Nat):Code->(Exit->Frm->Heap->Prop)->Frm->Heap->Prop
  |.skip,Q,fr,h=>Q .normal fr h
  |.region id ops draw,Q,fr,h=>match draw with
    |false=>VO P g.mu ops ops.toList (Q .normal) fr h
    |true=>∃h0,HLe h0 h/\cn P g.mu h0 (J6 P g.mu ops (g.dr id) (Zo ops.toList 0 [])) ops ((g.dr id).any (·.2.isSt)) (g.dr id) (Q .normal) fr h
  |.seq a b,Q,fr,h=>vwp P g n ro a (bX (vwp P g n ro b Q) Q) fr h
  |.cond c a b,Q,fr,h=>match qz fr c with
    |.bool b'=>match b' with
      |true=>vwp P g n ro a Q fr h
      |false=>vwp P g n ro b Q fr h
    |_=>False
  |.block id c,Q,fr,h=>vwp P g n ro c (bp id Q) fr h
  |.exit id,Q,fr,h=>Q (.exit id) fr h
  |.ret,Q,fr,h=>Q .ret fr h
  |.label _,Q,fr,h=>Q .normal fr h
  |.scope c,Q,fr,h=>vwp P g n ro c (zIf Q) fr h
  |.loop c,Q,fr,h=>∃I:Nat->Frm->Heap->Prop,(∃k,I k fr h)/\∀k fr h,I k fr h->vwp P g n ro c (bX (λfr h=>∃m,m<k/\I m fr h) Q) fr h
  |.rangeFunc f ps as body,Q,fr,h=>
    (match ro with
     |none=>True
     |some id=>∃r,h.at' id=some (.loop r))/\
    VFn P (qz fr f) [.yld h.next] (h.new h.next (.loop ⟨.ready,none,fr,ps,as,body,n⟩)) λ_ h'=>
      ∃r,h'.at' h.next=some (.loop r)/\r.st≠ .busy/\Va r.pending Q fr (h'.del h.next)
  |_,_,_,_=>False
def ss(P:Program)(g:Cfg)(n:Nat):Code->Bool
 |.skip=>true
 |.region id ops draw=>N4 n ops&&(!draw||I6 P g.mu ops (g.dr id))
 |.seq a b=>ss P g n a&&ss P g n b
 |.cond c a b=>Ar c&&ss P g n a&&ss P g n b
 |.block _ c=>ss P g n c
 |.exit _=>true
 |.ret=>true
 |.loop c=>ss P g n c
 |.rangeFunc f ps as body=>Ar f&&ps.toList.all (λt=>decide (t<n))&&ss P g n as&&ss P g n body
 |.refuse .. =>true
 |.label _=>true
 |.scope c=>ss P g n c
 |_=>false
def StM{P:Program}(c:Ctx P)(ms:List Nat)(n:Nat)(fr:Frm)(h:Heap)(a:Act)(w:World):Prop:=St c ms n fr h a w/\ms.Nodup/\∀b∈ms,b∉c.G
def zNh{P:Program}(c:Ctx P):Option Nat->Option Nat->Prop
 |none,none=>True
 |some id,some b=>∃l,c.ρ id=some l/\l.blk=b
 |_,_=>False
def zDm{P:Program}(c:Ctx P)(n:Nat)(Q:Exit->Frm->Heap->Prop)(e:Exit)(a:Act)(w:World):Prop:=∃ms fr h,StM c ms n fr h a w/\Q e fr h
section
variable{P:Program}{g:Cfg}{c:Ctx P}{ms:List Nat}{n:Nat}{fr:Frm}{h:Heap}{a:Act}{w:World}{ro rb:Option Nat}
def Qj(h:Heap)(i:Nat)(o:Obj):(h.set i o).del i=h.del i:=by simp_all [Heap.set,Heap.del]
def Sim.mark{w0:Base}(d:Sim w0 os M ρ h w):Sim w0 (w.heap.size::os) M ρ h (w.alloc (.deferred (some []))):=by
 have a:=d.alloc (.deferred (some []));refine { below:=a.below,imm:=a.imm,live:=a.live,apart:=a.apart,gdef:=λb c=> ?_,old:=a.old };rcases yE.1 c with rfl|c
 .refine⟨d.nokeep (zD _),?_⟩
  show(w.heap.push _)[w.heap.size]? =_;simp
 .exact a.gdef b c
def Sim.gdef_lt{w0:Base}(c:Sim w0 os M ρ h w){b:Nat}(a:b∈os):b<w.heap.size:=(yS.1 (c.gdef b a).2).1
def km.upd{o:Obj}(hf:km ρ h.next):km (mD ρ h.next l) (h.new h.next o).next:=λi a=>by
 simp only[Heap.new]at a
 have:i≠h.next:=ow;simp only[mD,this,yr];exact hf i ow
def Sim.loop{w0:Base}(e:Sim w0 os M ρ h w)(hf:km ρ h.next)(L:Go.Loop)(r:LRec)(e1:L.state=r.st)(e2:L.pending=r.pending)(e3:L.params=r.params)(a:L.assign=r.assign)(b:L.body=r.body)
  (c:L.tmps.size=r.n) (d:UV M ρ r.fr L.tmps):Sim w0 os M (mD ρ h.next ⟨w.heap.size,0,0⟩) (h.new h.next (.loop r)) (w.alloc (.loop L)):=by
 refine e.allocObj (hf _ (zD _)) (.loop L) (.loop r) ⟨w.heap.size,0,0⟩ rfl ⟨L,?_,e1,e2,e3,a,b,c,jM (MLe.refl _) (tM (hf _ (zD _))) d⟩;show(w.heap.push _)[w.heap.size]? =_;simp
def Sim.setLoop{w0:Base}(g:Sim w0 os M ρ h w){r:LRec}(i:h.at' id=some (.loop r))(j:ρ id=some l)(st:LoopState)(p:Option Code):
  ∃L:Go.Loop,w.heap[l.blk]? =some (.loop L)/\L.state=r.st/\L.pending=r.pending/\L.params=r.params/\L.assign=r.assign/\L.body=r.body/\L.tmps.size=r.n/\UV M ρ r.fr L.tmps/\
   Sim w0 os M ρ (h.set id (.loop { r with st:=st,pending:=p })) { w with heap:=w.heap.setIfInBounds l.blk (.loop { L with state:=st,pending:=p }) } :=by
 obtain⟨m,h1,c,L,a,k1,k2,k3,k4,k5,k6,k7⟩:=g.live id _ i;rw[j]at h1;cases h1;have f:l.blk<w.heap.size:=by grind
 refine⟨L,a,k1,k2,k3,k4,k5,k6,k7,?_⟩;refine g.put i j rfl rfl rfl jS (λb k=>by simp only[tG];rw[iq (λe=>k e.symm)]) (λo v e=> ?_) ⟨_,a,λd=>by simp⟩ ⟨{ L with state:=st,pending:=p },by simp[f],rfl,rfl,k3,k4,k5,k6,k7⟩;have:=g.imm _ _ _ e;simp[World.cell?,a]at this
def lN{b:Nat}{L:Go.Loop}(h:w.heap[b]? =some (.loop L)):(Instr.getLoop b).run P w=.ok L w:=by
 simp[Instr.getLoop,getObj,Sem.run,h]
def bS{b:Nat}{L:Go.Loop}{a:Go.Obj}(h:w.heap[b]? =some (.loop L)):(setObj b a).run P w=.ok () { w with heap:=w.heap.setIfInBounds b a } :=by
 simp[setObj,Sem.run,h]
def zLR{J:Nat->Prop} :∀k,J k->∃k,J k/\∀m,J m->k<=m:=by
 intro k
 induction k using Nat.strongRecOn with
 |_ k a=>
  grind
theorem Mb:∀{l:List (Nat×Fl)},alN l=0->∀x∈l,x.2.isAl=false
 | [],_,x,a=>by cases a
 |y::l,h,x,a=>by
  simp only[alN]at h;split at h
  .omega
  .rename_i b
   rcases yE.1 a with rfl|a
   .grind [Fl.isAl]
   .exact Mb h x a
theorem Do:∀{l:List (Nat×Fl)}{x:Nat×Fl}{k:Nat},x∈l->x.2=.al k->k<alN l
 | [],x,k,a,_=>by cases a
 |y::l,x,k,a,b=>by
  simp only[alN];rcases yE.1 a with rfl|a
  .grind
  .have:=Do a b
   split<;>omega
def J1{ops:Array Oper}{l:List (Nat×Fl)}{m:Nat}(c:alN l=m+1)(h:zKz ops l=true):(∀(i:Nat)(o:Oper),ops[i]? =some o->uy o.op=none)/\∀x∈l,∀y∈l,∀k,x.2=.al k->y.2=.al k->x.1=y.1:=by
 unfold zKz at h;rw[c]at h;simp only[zF,zb]at h;refine⟨λi o a=> ?_,λx e y f k d b=> ?_⟩
 .have:=h.1 o (by rw[<-qo]at a;exact zj a)
  simpa using this
 .grind
def Sim.bump{w0:Base}(a:Sim w0 os M ρ h w)(m:Nat):Sim w0 os M ρ (h.bump m) w:=
 { below:=a.below,imm:=a.imm,live:=a.live,apart:=a.apart,gdef:=a.gdef,old:=a.old }
section
variable{b:Frame}{k:List Item}{cs:List Frame}{F:Fence}{P:Program}{a:Act}{w:World}{n:Nat}{Q:Exit->Act->World->Prop}
def nX{c:Code} :step P (lone (b.atR a (.code (.scope c)::k)) cs w)=.next (lone (b.atR a (.code c::.inScope c::k)) cs w):=
 step_lone_go (by simp[stepG,stepG.exec,Frame.atR])
def RK{c:Code} :step P (lone (b.atR a (.inScope c::k)) cs w)=.next (lone (b.atR a k) cs w):=
 step_lone_go (by simp[stepG,stepG.exec,Frame.atR])
def Js{c:Code}(h:c.wpIn F n P (Exit.noGoto Q) a w):(Code.scope c).wpIn F n P Q a w:=by
 intro b k cs p j hr;have h0:(lone (b.atR a (.code (.scope c)::k)) cs w).fenced P F:=fenced_calm j hr rfl;obtain⟨e,g,i,f,d⟩:=h b (.inScope c::k) cs p j hr;cases e with
 |normal=>exact⟨.normal,g,i,f,.head h0 nX (StepsIn.trans d (.one (fenced_calm j hr rfl) RK))⟩
 |exit id=>
  have q:exitTo id (.inScope c::k)=exitTo id k:=by simp[exitTo]
  exact⟨.exit id,g,i,f,λk' m=>.head h0 nX (d.1 k' (by rw[q];exact m)),λo m=>let ⟨k1,h1,h2⟩:=d.2 o (by rw[q];exact m);⟨k1,h1,.head h0 nX h2⟩⟩
 |goto l=>exact f.elim
 |ret=>exact⟨.ret,g,i,f,.of_steps (.one h0 nX) d⟩
 |panic r=>exact⟨.panic r,g,i,f,.of_steps (.one h0 nX) d⟩
 |outgrown=>exact⟨.outgrown,g,i,f,.of_steps (.one h0 nX) d⟩
end
theorem pk(q:P.follows .mixedOrders=true):∀(co:Code)(c:Ctx P)(Q:Exit->Frm->Heap->Prop)(ms:List Nat)(fr:Frm)(h:Heap)(a:Act)(w:World),ss P g n co=true->zNh c ro rb->StM c ms n fr h a w->vwp P g n ro co Q fr h->
  co.wpIn (Fr rb) 0 P (zDm c n Q) a w
 |.skip,c,Q,ms,fr,h,a,w,d,p,s,j=>wpIn_skip ⟨ms,fr,h,s,j⟩
 |.exit id,c,Q,ms,fr,h,a,w,d,p,s,j=>wpIn_exit ⟨ms,fr,h,s,j⟩
 |.ret,c,Q,ms,fr,h,a,w,d,p,s,j=>wpIn_ret ⟨ms,fr,h,s,j⟩
 |.seq x y,c,Q,ms,fr,h,a,w,d,p,s,j=>by
  simp only[ss,zF]at d;simp only[vwp]at j;refine wpIn_seq (jW (pk q x c _ ms fr h a w d.1 p s j) λe a' w' A=> ?_);obtain⟨D,B,h',C,A⟩:=A;cases e with
  |normal=>exact pk q y c Q D B h' a' w' d.2 p C A
  |_=>exact⟨D,B,h',C,A⟩
 |.block id x,c,Q,ms,fr,h,a,w,d,p,s,j=>by
  simp only[ss]at d;simp only[vwp]at j;refine wpIn_block (jW (pk q x c _ ms fr h a w d p s j) λe a' w' A=> ?_);obtain⟨D,B,h',C,A⟩:=A;cases e with
  |exit i=>
   simp only[bp]at A;simp only[Exit.inBlock];split at A
   .rename_i N;rw[ip N];exact⟨D,B,h',C,A⟩
   .rename_i N;rw[iq N];exact⟨D,B,h',C,A⟩
  |_=>exact⟨D,B,h',C,A⟩
 |.cond x y z,c,Q,ms,fr,h,a,w,d,p,s,j=>by
  simp only[ss,zF]at d;simp only[vwp]at j;obtain⟨M,ρ,h1,S,h3,W,h5,h6,h7⟩:=s.1;have K:=ab h5 d.1.1;split at j
  .rename_i b T
   rw[T]at K;simp only[rel]at K;refine wpIn_cond (t:=b) K ?_;cases b with
   |true=>exact pk q y c Q ms fr h a w d.1.2 p s j
   |false=>exact pk q z c Q ms fr h a w d.2 p s j
  .exact j.elim
 |.region id ops a4,c,Q,ms,fr,h,a,w,d,p,s,j=>by
  simp only[ss,zF]at d;simp only[vwp]at j;obtain⟨H,Z,ad⟩:=s;have hK:∀fr h a w,St c ms n fr h a w->Q .normal fr h->zDm c n Q .normal a w:=λfr h a w k1 k2=>⟨ms,fr,h,⟨k1,Z,ad⟩,k2⟩;cases a4 with
  |false=>
   refine wpIn_region ?_;have:=Ux (ro:=rb) d.1 hK ops.toList [] rfl fr h a w H j;simpa [List.range_eq_range']using this
  |true=>
   have hd:I6 P g.mu ops (g.dr id)=true:=by simpa using d.2
   unfold I6 at hd;simp only[zF,qj]at hd;obtain⟨⟨⟨⟨⟨d1,d2⟩,d5⟩,a9⟩,d4⟩,d6⟩:=hd;have d3:=K7 a9;have a7:∀i,i<ops.size->i∈(g.dr id).map (·.1):=λi N=>by
    have:=zb.1 d1 i (yn.2 N);simpa using this
   obtain⟨h0,U,j⟩:=j;obtain⟨hh,bb,R,bx,j⟩:∃hh,HLe h0 hh/\StU c (zBn h0.next (g.dr id)) ms n fr hh a { w with drawn:=w.drawn+1 } /\zCt h0 ops (g.dr id)/\mF P g.mu h0 (J6 P g.mu ops (g.dr id) (Zo ops.toList 0 [])) ops ((g.dr id).any (·.2.isSt)) (g.dr id) (Q .normal) fr hh:=by
    have R:St c ms n fr h a { w with drawn:=w.drawn+1 } :=by
     obtain⟨M,ρ,h1,S,h3,W⟩:=H;exact⟨M,ρ,h1,S,h3.drew,W⟩
    cases X:alN (g.dr id)with
    |zero=>
     rw[ZI X]at j;have a8:=Mb X;refine⟨h,U,R.stu λi N=> ?_,.inl a8,j⟩;obtain⟨x,K,k,hk,_⟩:=N;have:=a8 x K;rw[hk]at this;cases this
    |succ m=>
     rw[Pj X]at j;obtain⟨b6,j⟩:=j;obtain⟨c1,c2⟩:=J1 X d6;obtain⟨M,ρ,h1,S,h3,W,h5,h6,h7⟩:=R;refine⟨h.bump (m+1),U,⟨M,ρ,h1,S,h3.bump _,λi N=>W i ?_,h5,h6,h7,λi N=> ?_⟩,.inr ⟨c1,c2,λk=> ?_⟩,j⟩
     .simp only[Heap.bump]at N;omega
     .obtain⟨x,K,k,hk,rfl⟩:=N
      have:=Do K hk;refine⟨?_,W _ ow⟩;simp only[Heap.bump];omega
     .cases hz:h0.at' (h0.next+k)with
      |none=>rfl
      |some ob=>
       obtain⟨l,hl,_⟩:=h3.live _ _ (U _ _ hz);rw[W _ ow]at hl;cases hl
   have a1:((g.dr id).map (·.1)).Nodup:=by simpa using d5
   refine wpIn_region_any q (MT (ro:=rb) (h0:=h0) d.1 hK ops.size ((g.dr id).any (·.2.isSt)) (g.dr id) _ fr hh a _ ow a1 (λi N=> ?_) jS (λk o hk hl=> ?_) d3 d4 (λ_=>bb) (λx K aj=>qF.2 ⟨x,K,aj⟩) (λy hy T x=>J7 hy T x) (λx K T z hz H=>Fv T hz H) bx R j)
   .simp[N,a7 i N]
   .have:=(yS.1 hk).1
    simp[this]at hl
 |.loop x,c,Q,ms,fr,h,a,w,d,p,s,j=>by
  simp only[ss]at d;simp only[vwp]at j;obtain⟨I,⟨k,hI⟩,ag⟩:=j
  classical
  let J:Nat->Act->World->Prop:=λk a w=>∃ms fr h,StM c ms n fr h a w/\I k fr h
  have O:∀a w,∃m,(∃k,J k a w)->J m a w/\∀k,J k a w->m<=k:=λa w=>by
   by_cases K:∃k,J k a w
   .obtain⟨k,hk⟩:=K
    obtain⟨m,h1,S⟩:=zLR (J:=λk=>J k a w) k hk;exact⟨m,λ_=>⟨h1,S⟩⟩
   .exact⟨0,λh=>absurd h K⟩
  let μ:Act->World->Nat:=λa w=>Classical.choose (O a w)
  have hμ:∀a w,(∃k,J k a w)->J (μ a w) a w/\∀k,J k a w->μ a w<=k:=λa w=>Classical.choose_spec (O a w);refine wpIn_loop (λa w=>∃k,J k a w) μ ⟨k,ms,fr,h,s,hI⟩ λa w K=> ?_;obtain⟨⟨D,B,h',C,ba⟩,_⟩:=hμ a w K;refine jW (pk q x c _ D B h' a w d p C (ag _ _ _ ba)) λe a' w' A=> ?_;obtain⟨a3,ak,S,a2,A⟩:=A;cases e with
  |normal=>
   obtain⟨m,bs,a5⟩:=A;have aj:∃k,J k a' w':=⟨m,a3,ak,S,a2,a5⟩;exact⟨aj,Nat.lt_of_le_of_lt ((hμ a' w' aj).2 m ⟨a3,ak,S,a2,a5⟩) bs⟩
  |_=>exact⟨a3,ak,S,a2,A⟩
 |.rangeFunc f ps as body,c,Q,ms,fr,h,a,w,d,p,s,j=>by
  simp only[ss,zF]at d;obtain⟨⟨⟨o1,o2⟩,o3⟩,o4⟩:=d;simp only[vwp]at j;obtain⟨b3,V⟩:=j;obtain⟨⟨M,ρ,h1,S,h3,W,h5,h6,h7⟩,Z,ad⟩:=s;have rf:=ab h5 o1;generalize hD:qz fr f=D0 at V rf;cases D0<;>simp only[VFn]at V;rename_i g0 first cap
  cases g0<;>simp only at V;rename_i g1;simp only[rel]at rf;obtain⟨_,va,vc,ef,b4,b5⟩:=rf;refine wpIn_rangeFunc λfn _=> ?_;obtain⟨E,L,u,Y,b2,a1,b0,l1,l2,l3,l4,l5,l6⟩:∃ (E:List Nat) (L:Go.Loop) (u:World),(Instr.enterLoop fn a.tmps ps as body rb).run P w=.ok (u.heap.size,E.map Q5) (u.alloc (.loop L))/\
    Sim c.w0 (E++ms++c.G) M ρ h u/\(E++ms).Nodup/\(∀b∈E++ms,b∉c.G)/\L.state=.ready/\L.pending=none/\L.tmps=a.tmps/\L.params=ps/\L.assign=as/\L.body=body:=by
   cases rb with
   |none=>
    refine⟨[w.heap.size],{ state:=.ready,pending:=none,fn:=fn,tmps:=a.tmps,params:=ps,assign:=as,body:=body,defers:=w.heap.size },w.alloc (.deferred (some [])),?_,h3.mark,?_,?_,rfl,rfl,rfl,rfl,rfl,rfl⟩
    .simp[Instr.enterLoop,Q5]
    .rw[List.singleton_append,oS]
     exact⟨λT=>wK _ (h3.gdef_lt (mQ _ T)),Z⟩
    .intro b T hg
     rcases yE.1 T with rfl|T
     .exact wK _ (h3.gdef_lt (rc _ hg))
     .exact ad b T hg
   |some b=>
    cases ro with
    |none=>exact p.elim
    |some id=>
     obtain⟨l,bk,bo⟩:=p;obtain⟨r,hr⟩:=b3;obtain⟨l',g1,_,L0,g2,_⟩:=h3.live id _ hr;rw[S _ _ bk]at g1;cases g1;rw[bo]at g2;refine⟨[],{ state:=.ready,pending:=none,fn:=fn,tmps:=a.tmps,params:=ps,assign:=as,body:=body,defers:=L0.defers },w,?_,h3,Z,ad,rfl,rfl,rfl,rfl,rfl,rfl⟩;simp[Instr.enterLoop,lN g2]
  have b1:=b2.loop W L ⟨.ready,none,fr,ps,as,body,n⟩ l1 l2 l4 l5 l6 (by rw[l3];exact h7) (by rw[l3];exact h5);have ai:RLe ρ (mD ρ h.next ⟨u.heap.size,0,0⟩):=tM (W _ (zD _));refine⟨u.heap.size,E.map Q5,u.alloc (.loop L),{ target:=.fn (.func g1) vc,args:=va++ #[.func (.yield u.heap.size) #[] #[]] },u.alloc (.loop L),g1,va++ #[.func (.yield u.heap.size) #[] #[]]++vc,u.alloc (.loop L),Y,?_,λ_ _=>trivial,?_,λe=>(by cases e),?_⟩
  .simp only[resolve,rangeCall,ef,Deferred.ofValue]
   simp[Act.eval]
  .exact Yg V.1 _ _
  .have a0:=V.2 c.w0 (E++ms++c.G) M _ _ (va++ #[.func (.yield u.heap.size) #[] #[]]++vc) c.good b1 (km.upd W) (by
    simp only[ml];refine tE (tE (rv (MLe.refl _) ai _ _ b4) ?_) (rv (MLe.refl _) ai _ _ b5);simp only[wI,rel];exact⟨_,[],rfl,⟨_,by simp[mD];rfl,rfl⟩,rfl⟩)
   refine CallsIn.mono (F:=Fr rb) (n:=0-1) (YS.2 a0) λe w3 he=> ?_;obtain⟨v,M',ρ',d',h',rfl,q1,q2,q3,q4,q5,r,r1,r2,r3⟩:=he;have hl:ρ' h.next=some ⟨u.heap.size,0,0⟩:=q2 _ _ (by simp[mD]);obtain⟨L3,e1,e2,e3,_,_,_,_,_,hS⟩:=q3.setLoop r1 hl .exhausted r.pending;have a6:({ L3 with state:=.exhausted,pending:=r.pending } :Go.Loop)= { L3 with state:=.exhausted } :=by rw[<-e3]
   rw[a6]at hS;have hS:=hS.del h.next;rw[Qj]at hS;have au:(L3.state==LoopState.busy)=false:=by rw[e2];simpa using r2
   refine⟨r.pending,{ w3 with heap:=w3.heap.setIfInBounds u.heap.size (.loop { L3 with state:=.exhausted }) },?_,?_⟩
   .simp only[Instr.endLoop,zz,lN e1,zd,au,zf,yr,bS e1,yU,e3]
   .have H:StM c (E++ms) n fr (h'.del h.next) { a with defers:=E.map Q5++a.defers } { w3 with heap:=w3.heap.setIfInBounds u.heap.size (.loop { L3 with state:=.exhausted }) } :=
     ⟨⟨M',ρ',h1.trans q1,(S.trans ai).trans q2,hS,q4,jM q1 (ai.trans q2) h5,by simp[h6],h7⟩,a1,b0⟩
    cases hp:r.pending with
    |none=>rw[hp]at r3;exact⟨_,_,_,H,r3⟩
    |some cc=>
     rw[hp]at r3;cases cc<;>simp only[Va]at r3
     .exact wpIn_exit ⟨_,_,_,H,r3⟩
     .exact wpIn_ret ⟨_,_,_,H,r3⟩
 |.label _,c,Q,ms,fr,h,a,w,d,p,s,j=>wpIn_label ⟨ms,fr,h,s,j⟩
 |.goto _,_,_,_,_,_,_,_,d,_,_,_=>by simp[ss]at d
 |.scope x,c,Q,ms,fr,h,a,w,d,p,s,j=>by
  simp only[ss]at d;simp only[vwp]at j;refine Js (jW (pk q x c _ ms fr h a w d p s j) λe a' w' A=> ?_);obtain⟨D,B,h',C,A⟩:=A;cases e with
  |goto l=>exact A.elim
  |_=>exact⟨D,B,h',C,A⟩
 |.refuse ..,_,_,_,_,_,_,_,_,_,_,j=>by simp[vwp]at j
end
def Z8(fr:Frm):List Tmp->List D->Frm
 |t::ts,d::ds=>Z8 (nz fr (some t) d) ts ds
 |_,_=>fr
def RA(Q:D->Heap->Prop)(id:Nat)(L:LRec)(e:Exit)(h:Heap):Prop:=
 match e with
 |.normal=>Q (.bool true) (h.set id (.loop { L with st:=.ready,pending:=none }))
 |.ret=>Q (.bool false) (h.set id (.loop { L with st:=.done,pending:=some .ret }))
 |.exit i=>Q (.bool false) (h.set id (.loop { L with st:=.done,pending:=some (.exit i) }))
 |_=>False
def FB(P:Program)(fr:Frm)(h:Heap):ResultVar->Option D
 |.tmp t=>some (fr t)
 |.cell a t=>jT P t (fr a) h
def lY(P:Program)(fr:Frm)(h:Heap):List ResultVar->Option (List D)
 | []=>some []
 |r::rs=>match FB P fr h r with
  |none=>none
  |some d=>match lY P fr h rs with
   |none=>none
   |some ds=>some (d::ds)
def Zw(ds:List D):D:=
 match ds with
 | [d]=>d
 |ds=>.tuple ds
def TV(args:List D):Frm:=λi=>match args[i]? with
 |some d=>d
 |none=>rJ
def Bu(P:Program)(rs:List ResultVar)(Q:D->Heap->Prop)(e:Exit)(fr:Frm)(h:Heap):Prop:=
  (match e with
   |.normal=>True
   |.ret=>True
   |_=>False)/\
  match lY P fr h rs with
  |some ds=>Q (Zw ds) h
  |none=>False
section
variable{P:Program}{g:Cfg}{c:Ctx P}{ms:List Nat}{n:Nat}{fr:Frm}{h:Heap}{a:Act}{w:World}{ro rb:Option Nat}{M:Imm}{ρ:Ren}{w0:Base}{G:List Nat}
def Ub(tmps:Array Value):ResultVar->Sem Value
 |.tmp t=>pure (tmps.getD t undef)
 |.cell a t=>do loadVar t (<-asAddr (tmps.getD a undef))
def DM(j:Sim w0 G M ρ h w)(hf:UV M ρ fr tmps){r:ResultVar}(hr:FB P fr h r=some d):
  ∃v,(Ub tmps r).run P w=.ok v w/\rel M ρ d v:=by
 cases r with
 |tmp t=>cases hr;exact⟨_,rfl,hf t⟩
 |cell b t=>
  simp only[FB]at hr;have g:=hf b;unfold jT at hr;split at hr
  .cases hr
  .rename_i ag a
   split at hr
   .rename_i cs off c
    rw[c]at g;obtain⟨b',p,e,m⟩:=g;obtain⟨v,h1,f⟩:=(j.holds m).loadVar a hr;exact⟨v,by simp[Ub,e,asAddr,h1],f⟩
   .rename_i id off c
    rw[c]at g;obtain⟨l,k,e⟩:=g;split at hr
    .rename_i cs i
     obtain⟨v,h1,f⟩:=(j.row i k).loadVar a hr;rw[yP]at h1;exact⟨v,by simp[Ub,e,asAddr,h1],f⟩
    .rename_i u full cs i
     obtain⟨v,h1,f⟩:=(j.trow i k).loadVar a hr;rw[yP]at h1;exact⟨v,by simp[Ub,e,asAddr,h1],f⟩
    .cases hr
   .cases hr
theorem Lv(b:Sim w0 G M ρ h w)(hf:UV M ρ fr tmps):∀{rs:List ResultVar}{ds:List D},lY P fr h rs=some ds->
  ∃vs,(rs.mapM (Ub tmps)).run P w=.ok vs w/\wI M ρ ds vs
 | [],ds,hr=>by cases hr;exact⟨[],rfl,rfl⟩
 |r::rs,ds,hr=>by
  simp only[lY]at hr;split at hr
  .cases hr
  .rename_i d e
   split at hr
   .cases hr
   .rename_i c a
    cases hr;obtain⟨v,v1,f⟩:=DM (P:=P) b hf e;obtain⟨vs,s1,s2⟩:=Lv b hf a;refine⟨v::vs,?_,⟨v,vs,rfl,f,s2⟩⟩
    simp_all [List.mapM_cons]
def N9(b:Sim w0 G M ρ h w)(hf:UV M ρ fr tmps){fn:Func}(hr:lY P fr h fn.results.toList=some ds):
  ∃v,(results fn tmps).run P w=.ok v w/\rel M ρ (Zw ds) v:=by
 obtain⟨vs,s1,s2⟩:=Lv (P:=P) b hf hr;have a:=qL s2;refine⟨if h:vs.toArray.size=1 then vs.toArray[0]else .tuple vs.toArray,?_,?_⟩
 .unfold results
  rw[Array.mapM_eq_mapM_toList];change (do
   let vs<-Functor.map List.toArray (List.mapM (Ub tmps) fn.results.toList)
   pure (if h:vs.size=1 then vs[0]else .tuple vs):Sem Value).run P w=_
  simp_all
 .match ds,vs,a,s2 with
  | [],[],_,_=>simp only[Zw,rel,wI];exact⟨#[],rfl,rfl⟩
  | [d],[v],_,s2=>
   grind [wI,Zw]
  |d::c::ds,v::e::vs,_,s2=>
   grind [Zw,rel]
variable{k:Nat}
theorem Un{fn:Func}{R:Ending->World->Prop}{F:Fence} :∀(ms:List Nat)(w:World),Sim w0 (ms++G) M ρ h w->ms.Nodup->(∀b∈ms,b∉G)->
  (∀j,Sim w0 G M ρ h j->∃v,(results fn tmps).run P j=.ok v j/\R (.returned v) j)->LeavesInM F k P fn tmps R (ms.map Q5) .returning w
 | [],w,a,_,_,n=>by
  exact n w a
 |b::ms,w,a,r,s,n=>by
  obtain⟨h1,c⟩:=a.gdef b jS;refine⟨jS,.inl ⟨b,{ w with heap:=w.heap.setIfInBounds b (.deferred none) },rfl,?_,?_⟩⟩
  .simp[Instr.takeDeferred,getObj,setObj,Sem.run,c]
  .refine Un ms _ ?_ (oS.1 r).2 (λx B=>s x (by simp[B])) n
   have p:∀b',b'≠b->(w.heap.setIfInBounds b (.deferred none))[b']? =w.heap[b']? :=by grind
   refine { below:=⟨a.below.os,a.below.tape,a.below.output,by simpa using a.below.size,λq y=> ?_,a.below.drawn⟩,imm:=λb' o v e=> ?_,live:=λi z e=> ?_,apart:=a.apart,gdef:=λb' A=> ?_,old:=a.old }
   .rw[p q (λe=>h1 (e▸y))];exact a.below.block q y
   .have:=a.imm b' o v e
    have f:b'≠b:=by
     intro m;subst m;simp[World.cell?,c]at this
    rw[<-this];exact wi (w:=w) (p b' f)
   .obtain⟨l,t,u,d⟩:=a.live i z e
    refine⟨l,t,u,sI (p _ λm=> ?_) d⟩;rw[<-m]at c;cases z with
    |row _=>obtain⟨_,_,_,g,_⟩:=d;rw[c]at g;cases g
    |tok=>obtain⟨_,_,_,_,g,_⟩:=d;rw[c]at g;cases g
    |map _=>obtain⟨_,_,g,_⟩:=d;rw[c]at g;cases g
    |loop _=>obtain⟨_,g,_⟩:=d;rw[c]at g;cases g
    |siter _ _=>obtain⟨_,g,_⟩:=d;rw[c]at g;cases g
    |trow _ _ _=>obtain⟨_,_,_,g,_⟩:=d;rw[c]at g;cases g
   .have f:b'≠b:=by
     grind
    obtain⟨t,u⟩:=a.gdef b' (by simp only[zq,yE];exact .inr A)
    grind
def JT(hr:wI M ρ args va.toList)(k:Nat):UV M ρ (TV args) (va++Array.replicate k undef):=by
 intro i;have f:=qL hr;unfold TV;cases e:args[i]? with
 |some d=>
  obtain⟨v,h1,c⟩:=sJ hr i d e;have b:i<va.size:=by grind
  have:(va++Array.replicate k undef).getD i undef=v:=by
   rw[uN,tu b,<-qo,h1];rfl
  rw[this];exact c
 |none=>
  have a:va.size<=i:=by grind
  have:(va++Array.replicate k undef).getD i undef=undef:=by
   rw[uN,Array.getElem?_append_right a]
   grind
  rw[this];exact fX
variable{Q:D->Heap->Prop}
def zE.of_body(j:P.follows .mixedOrders=true){fn:Func}{co:Code}(hf:P.funcs[f]? =some fn)(l:fn.body=some co)(z:(fn.name== "runtime.NumGoroutine")=false)(p:ss P g fn.ntmps co=true)
  (D:args.length<=fn.ntmps) (B:vwp P g fn.ntmps none co (Bu P fn.results.toList Q) (TV args) h):zE P f args h Q:=by
 refine⟨by simp[pU,hf,l,bne,z],λw0 G M ρ w t i A o hr=> ?_⟩;have r:=qL hr;rw[yX]at r;refine YS.1 (callsIn_of_wp_marks (F:=Fence.wide) (n:=0) hf l trivial ?_);have q:StM ⟨w0,G,M,ρ,i⟩ [] fn.ntmps (TV args) h { tmps:=t++Array.replicate (fn.ntmps-t.size) undef,defers:=[] } w:=
  ⟨⟨M,ρ,MLe.refl _,RLe.refl _,A,o,JT hr _,rfl,jO⟩,nc,λb l=>by cases l⟩
 refine jW (pk (ro:=none) (rb:=none) j co ⟨w0,G,M,ρ,i⟩ _ [] _ _ _ _ p trivial q B) λe s u c=> ?_;obtain⟨ms,m,h',⟨⟨M',C,k1,k2,k3,k4,k5,k6,k7⟩,k8,k9⟩,c⟩:=c;have d:∀ds,lY P m h' fn.results.toList=some ds->Q (Zw ds) h'->LeavesInM Fence.wide 0 P fn s.tmps (Ret w0 G M ρ Q) s.defers .returning u:=λds a x=>by
  rw[k6];refine Un ms u k3 k8 k9 λE k=> ?_;obtain⟨v,r1,r2⟩:=N9 (P:=P) k k5 a;exact⟨v,r1,v,M',C,_,h',rfl,k1,k2,k,k4,r2,x⟩
 obtain⟨y,c⟩:=c;split at c
 .rename_i ds a
  cases e with
  |normal=>exact d ds a c
  |ret=>exact d ds a c
  |_=>exact y.elim
 .exact c.elim
def Sim.fewer(a:Sim w0 G M ρ h w)(d:∀x∈os,x∈G):Sim w0 os M ρ h w:=
 { below:=a.below,imm:=a.imm,live:=a.live,apart:=a.apart,gdef:=λb c=>a.gdef b (d b c),old:=a.old }
theorem UW:∀(a:List Tmp)(ds:List D)(vs:List Value)(fr:Frm)(tmps:Array Value),UV M ρ fr tmps->wI M ρ ds vs->(∀t∈a,t<tmps.size)->a.length=ds.length->
  UV M ρ (Z8 fr a ds) ((a.zip vs).foldl (λtmps p=>tmps.setIfInBounds p.1 p.2) tmps)/\((a.zip vs).foldl (λtmps p=>tmps.setIfInBounds p.1 p.2) tmps).size=tmps.size
 | [],[],vs,fr,tmps,hf,hr,c,b=>by
  exact⟨hf,rfl⟩
 |t::a,d::ds,vs,fr,tmps,hf,hr,c,b=>by
  obtain⟨v,e,rfl,h1,f⟩:=hr;simp only[oT,List.foldl_cons,Z8];have:=UW a ds e (nz fr (some t) d) (tmps.setIfInBounds t v) (XM hf h1 (c t jS)) f (λu g=>by simpa using c u (by simp[g])) (by simpa using b)
  grind
 | [],_::_,_,_,_,_,_,_,b=>by simp at b
 |_::_,[],_,_,_,_,_,_,b=>by simp at b
def uC.of_round(j:P.follows .mixedOrders=true){L:LRec}(hL:h.at' id=some (.loop L))(r:args.length=L.params.size)(ai:L.params.toList.all (λt=>decide (t<L.n))=true)
  (W:ss P g L.n L.assign=true) (X:ss P g L.n L.body=true)
  (hv:vwp P g L.n (some id) L.assign (λe o h1=>match e with
   |.normal=>∃k,h1.at' id=some (.loop k)/\k.st=.ready/\vwp P g L.n (some id) L.body (λe _ F=>∃D,F.at' id=some (.loop D)/\RA Q id D e F) o (h1.set id (.loop { k with st:=.busy }))
   |_=>False) (Z8 L.fr L.params.toList args) h):uC P id args h Q:=by
 intro w0 G M ρ w C l f hs O hr R;obtain⟨l',h1,N,m,g1,g2,g3,g4,g5,g6,g7,g8⟩:=hs.live id _ hL;have aj:=qL hr;have s:∀t∈L.params.toList,t<m.tmps.size:=by grind
 obtain⟨p1,p2⟩:=UW L.params.toList args C.toList L.fr m.tmps g8 hr s (by rw[yX];exact r.symm);have ad:((L.params.zip C).foldl (λtmps x=>match x with|(t,a)=>tmps.setIfInBounds t a) m.tmps)=(L.params.toList.zip C.toList).foldl (λtmps p=>tmps.setIfInBounds p.1 p.2) m.tmps:=by
  rw[<-Array.foldl_toList,Array.toList_zip]
 refine⟨m.fn,(L.params.toList.zip C.toList).foldl (λtmps p=>tmps.setIfInBounds p.1 p.2) m.tmps,L.assign,L.body,?_,?_⟩
 .unfold Instr.yield
  simp_all [lN]
 .refine roundIn_of_wpIn trivial ?_
  have V:StM ⟨w0,G,M,ρ,f⟩ [] L.n (Z8 L.fr L.params.toList args) h { tmps:=(L.params.toList.zip C.toList).foldl (λtmps p=>tmps.setIfInBounds p.1 p.2) m.tmps,defers:=[] } w:=
   ⟨⟨M,ρ,MLe.refl _,RLe.refl _,hs,O,p1,rfl,by rw[p2,g7]⟩,nc,λb K=>by cases K⟩
  have u:zNh ⟨w0,G,M,ρ,f⟩ (some id) (some l.blk):=⟨l,R,rfl⟩;refine jW (pk (rb:=some l.blk) j L.assign ⟨w0,G,M,ρ,f⟩ _ [] _ _ _ _ W u V hv) λe a1 I H=> ?_;obtain⟨B,o,h1,z,H⟩:=H;cases e with
  |normal=>
   obtain⟨k,j1,j2,j3⟩:=H;obtain⟨⟨M1,ρ1,k1,k2,k3,k4,k5,k6,k7⟩,k8,k9⟩:=z;have S:ρ1 id=some l:=k2 _ _ R;obtain⟨E,e1,e2,e3,_,_,_,_,_,Z⟩:=k3.setLoop j1 S .busy k.pending;have q:({ E with state:=.busy,pending:=k.pending } :Go.Loop)= { E with state:=.busy } :=by rw[<-e3]
   rw[q]at Z;refine⟨{ I with heap:=I.heap.setIfInBounds l.blk (.loop { E with state:=.busy }) },?_,?_⟩
   .simp only[Instr.beginRound,zz,lN e1,zd,bS e1,e2,j2,yU]
   .have A:StM ⟨w0,G,M,ρ,f⟩ B L.n o (h1.set id (.loop { k with st:=.busy })) a1 { I with heap:=I.heap.setIfInBounds l.blk (.loop { E with state:=.busy }) } :=
     ⟨⟨M1,ρ1,k1,k2,Z,k4,k5,k6,k7⟩,k8,k9⟩
    refine jW (pk (rb:=some l.blk) j L.body ⟨w0,G,M,ρ,f⟩ _ B _ _ _ _ X u A j3) λe2 a2 Y U=> ?_;obtain⟨ak,ag,F,⟨⟨M2,ρ2,q1,q2,q3,q4,q5,q6,q7⟩,q8,q9⟩,D,t1,t2⟩:=U;have T:ρ2 id=some l:=q2 _ _ R;have d:∀(c:Option Code)(b:Bool)(st:LoopState),(c.isNone=b)->st=(if c.isNone then .ready else .done)->Q (.bool b) (F.set id (.loop { D with st:=st,pending:=c }))->
      ∃v w',(Instr.endRound l.blk c).run P Y=.ok v w'/\Ret w0 G M ρ Q (.returned v) w':=λc b st K y hQ=>by
     obtain⟨Ly,y1,_,_,_,_,_,_,_,J⟩:=q3.setLoop t1 T st c;refine⟨.bool b,{ Y with heap:=Y.heap.setIfInBounds l.blk (.loop { Ly with state:=st,pending:=c }) },?_,.bool b,M2,ρ2,.bool b,_,rfl,q1,q2,J.fewer (λx hx=>rc _ hx),q4,uv b,hQ⟩;simp only[Instr.endRound,zz,lN y1,zd,bS y1,yU,K,y]
    cases e2 with
    |normal=>exact d none true .ready rfl rfl t2
    |ret=>exact d (some .ret) false .done rfl rfl t2
    |exit i=>exact d (some (.exit i)) false .done rfl rfl t2
    |_=>exact t2.elim
  |_=>exact H.elim
end
mutual
def below(k:Nat):D->Prop
 |.bool _=>True
 |.int _ _=>True
 |.str _=>True
 |.nilptr=>True
 |.ptr id _=>id<k
 |.iptr cs _=>qM k cs
 |.nilsl=>True
 |.sl _ xs tk=>nC k xs/\(match tk with|.own t=>t<k|_=>True)
 |.rs id _ _ _=>id<k
 |.nilmap=>True
 |.map id=>id<k
 |.fn _ a c=>qM k a/\qM k c
 |.yld id=>id<k
 |.nilfn=>True
 |.agg cs=>qM k cs
 |.tuple cs=>qM k cs
 |.iface _ d=>below k d
 |.niliface=>True
def qM(k:Nat):List D->Prop
 | []=>True
 |d::ds=>below k d/\qM k ds
def nC(k:Nat):List (List D)->Prop
 | []=>True
 |x::xs=>qM k x/\nC k xs
end
def FU(k:Nat)(ρ:Ren):Ren:=λi=>if i<k then ρ i else none
variable{k n:Nat}{M:Imm}{fr:Frm}{P:Program}{w:World}{h h0:Heap}{K Q:D->Heap->Prop}{b:Bool}
def nM(h:i<k):FU k ρ i=ρ i:=ip h
section
variable{M:Imm}{ρ:Ren}{k:Nat}
mutual
theorem pu(k:Nat)(M:Imm)(ρ:Ren):∀(d:D)(v:Value),below k d->rel M ρ d v->rel M (FU k ρ) d v
 |.bool _,_,_,h=>by simpa [rel]using h
 |.int _ _,_,_,h=>by simpa [rel]using h
 |.str _,_,_,h=>by simpa [rel]using h
 |.nilptr,_,_,h=>by simpa [rel]using h
 |.ptr id off,_,b,h=>by simp only[below]at b;simpa only[rel,nM b]using h
 |.iptr cs off,_,b,h=>by
  simp only[rel,below]at h b⊢;obtain⟨x,p,h1,e⟩:=h;exact⟨x,p,h1,Wq k M ρ cs x p b e⟩
 |.nilsl,_,_,h=>by simpa [rel]using h
 |.sl sz xs tk,_,b,h=>by
  simp only[rel,below]at h b⊢;obtain⟨h0,m,x,p,cap,h1,e,h3,g⟩:=h;refine⟨h0,m,x,p,cap,h1,e,PK k M ρ sz xs x p b.1 h3,?_⟩;cases tk with
  |no=>trivial
  |full=>exact g
  |own t=>
   obtain⟨l,i,j⟩:=g;exact⟨l,by rw[nM b.2];exact i,j⟩
 |.rs id _ _ _,_,b,h=>by simp only[below]at b;simpa only[rel,nM b]using h
 |.nilmap,_,_,h=>by simpa [rel]using h
 |.map id,_,b,h=>by simp only[below]at b;simpa only[rel,nM b]using h
 |.fn f a c,_,b,h=>by
  simp only[rel,below]at h b⊢;obtain⟨h0,n,o,h1,e,h3⟩:=h;exact⟨h0,n,o,h1,n8 k M ρ a _ b.1 e,n8 k M ρ c _ b.2 h3⟩
 |.yld id,_,b,h=>by simp only[below]at b;simpa only[rel,nM b]using h
 |.nilfn,_,_,h=>by simpa [rel]using h
 |.agg cs,_,b,h=>by
  simp only[rel,below]at h b⊢;obtain⟨vs,h1,e,h3⟩:=h;exact⟨vs,h1,n8 k M ρ cs _ b e,h3⟩
 |.tuple cs,_,b,h=>by
  simp only[rel,below]at h b⊢;obtain⟨vs,h1,e⟩:=h;exact⟨vs,h1,n8 k M ρ cs _ b e⟩
 |.iface t d,_,b,h=>by
  simp only[rel,below]at h b⊢;obtain⟨u,h1,e⟩:=h;exact⟨u,h1,pu k M ρ d u b e⟩
 |.niliface,_,_,h=>by simpa [rel]using h
theorem n8(k:Nat)(M:Imm)(ρ:Ren):∀(ds:List D)(vs:List Value),qM k ds->wI M ρ ds vs->wI M (FU k ρ) ds vs
 | [],_,_,h=>by simpa [wI]using h
 |d::ds,_,b,h=>by
  simp only[wI,qM]at h b⊢;obtain⟨v,a,h1,c,h3⟩:=h;exact⟨v,a,h1,pu k M ρ d v b.1 c,n8 k M ρ ds a b.2 h3⟩
theorem Wq(k:Nat)(M:Imm)(ρ:Ren):∀(ds:List D)(b p:Nat),qM k ds->kA M ρ ds b p->kA M (FU k ρ) ds b p
 | [],_,_,_,_=>by simp[kA]
 |d::ds,b,p,a,h=>by
  simp only[kA,qM]at h a⊢;obtain⟨⟨h0,v,h1,c⟩,h3⟩:=h;exact⟨⟨h0,v,h1,pu k M ρ d v a.1 c⟩,Wq k M ρ ds b (p+1) a.2 h3⟩
theorem PK(k:Nat)(M:Imm)(ρ:Ren):∀(sz:Nat)(xs:List (List D))(b p:Nat),nC k xs->fU M ρ sz xs b p->fU M (FU k ρ) sz xs b p
 |_,[],_,_,_,_=>by simp[fU]
 |sz,x::xs,b,p,a,h=>by
  simp only[fU,nC]at h a⊢;exact⟨h.1,Wq k M ρ x b p a.1 h.2.1,PK k M ρ sz xs b (p+sz) a.2 h.2.2⟩
end
def km.lt(hf:km ρ k)(h:ρ i=some l):i<k:=by
 by_cases a:i<k
 .exact a
 .rw[hf i ow]at h;cases h
mutual
theorem n9(hf:km ρ k):∀(d:D)(v:Value),rel M ρ d v->below k d
 |.bool _,_,_=>trivial
 |.int _ _,_,_=>trivial
 |.str _,_,_=>trivial
 |.nilptr,_,_=>trivial
 |.ptr id off,_,h=>by simp only[rel]at h;obtain⟨l,h1,_⟩:=h;exact hf.lt h1
 |.iptr cs off,_,h=>by
  simp only[rel,below]at h⊢;obtain⟨x,p,h1,b⟩:=h;exact Z3 hf cs x p b
 |.nilsl,_,_=>trivial
 |.sl sz xs tk,_,h=>by
  simp only[rel,below]at h⊢;obtain⟨h0,j,x,p,cap,h1,b,h3,g⟩:=h;refine⟨UT hf sz xs x p h3,?_⟩;cases tk with
  |no=>trivial
  |full=>trivial
  |own t=>
   obtain⟨l,e,i⟩:=g;exact hf.lt e
 |.rs id _ _ _,_,h=>by simp only[rel]at h;obtain⟨_,_,l,_,_,h1,_⟩:=h;exact hf.lt h1
 |.nilmap,_,_=>trivial
 |.map id,_,h=>by simp only[rel]at h;obtain⟨l,h1,_⟩:=h;exact hf.lt h1
 |.fn f a c,_,h=>by
  simp only[rel,below]at h⊢;obtain⟨h0,m,n,h1,b,h3⟩:=h;exact⟨nT hf a _ b,nT hf c _ h3⟩
 |.yld id,_,h=>by simp only[rel]at h;obtain⟨l,h1,_⟩:=h;exact hf.lt h1
 |.nilfn,_,_=>trivial
 |.agg cs,_,h=>by
  simp only[rel,below]at h⊢;obtain⟨vs,h1,b,h3⟩:=h;exact nT hf cs _ b
 |.tuple cs,_,h=>by
  simp only[rel,below]at h⊢;obtain⟨vs,h1,b⟩:=h;exact nT hf cs _ b
 |.iface t d,_,h=>by
  simp only[rel,below]at h⊢;obtain⟨u,h1,b⟩:=h;exact n9 hf d u b
 |.niliface,_,_=>trivial
theorem nT(hf:km ρ k):∀(ds:List D)(vs:List Value),wI M ρ ds vs->qM k ds
 | [],_,_=>trivial
 |d::ds,_,h=>by
  simp only[wI,qM]at h⊢;obtain⟨v,a,h1,b,h3⟩:=h;exact⟨n9 hf d v b,nT hf ds a h3⟩
theorem Z3(hf:km ρ k):∀(ds:List D)(b p:Nat),kA M ρ ds b p->qM k ds
 | [],_,_,_=>trivial
 |d::ds,b,p,h=>by
  simp only[kA,qM]at h⊢;obtain⟨⟨h0,v,h1,a⟩,h3⟩:=h;exact⟨n9 hf d v a,Z3 hf ds b (p+1) h3⟩
theorem UT(hf:km ρ k):∀(sz:Nat)(xs:List (List D))(b p:Nat),fU M ρ sz xs b p->nC k xs
 |_,[],_,_,_=>trivial
 |sz,x::xs,b,p,h=>by
  simp only[fU,nC]at h⊢;exact⟨Z3 hf x b p h.2.1,UT hf sz xs b (p+sz) h.2.2⟩
end
theorem UX(hf:km ρ' k):∀(ds:List (D×D))(f c:List MapEntry),pi M' ρ' ds c->pi M ρ ds f->pi M (FU k ρ) ds f
 | [],_,_,_,h=>by simpa [pi]using h
 |(x,d)::ds,_,_,h0,h=>by
  simp only[pi]at h h0⊢;obtain⟨e,a,h1,l,h3,m⟩:=h;obtain⟨n,b,_,g,i,j⟩:=h0;exact⟨e,a,h1,pu k M ρ _ _ (n9 hf _ _ g) l,pu k M ρ _ _ (n9 hf _ _ i) h3,UX hf ds a b j m⟩
def Ns{l E:Loc}(hf:km ρ' k):∀(n:Obj),rF M' ρ' w' E n->rF M ρ w l n->rF M (FU k ρ) w l n
 |.row cs,h0,h=>by
  obtain⟨a,c,e,h1,b,h3,f⟩:=h;obtain⟨_,p,_,_,_,_,m⟩:=h0;refine⟨a,c,e,h1,b,h3,λi d j=> ?_⟩;obtain⟨h5,v,x,y⟩:=f i d j;obtain⟨_,_,_,o⟩:=m i d j;exact⟨h5,v,x,pu k M ρ _ _ (n9 hf _ _ o) y⟩
 |.tok,_,h=>h
 |.map G,h0,h=>by
  obtain⟨s,q,h1,b⟩:=h;obtain⟨u,_,_,z⟩:=h0;exact⟨s,q,h1,UX hf _ _ _ z b⟩
 |.loop r,h0,h=>by
  obtain⟨L,h1,b,h3,f,h5,B,C,D⟩:=h;obtain⟨F,_,_,_,_,_,_,_,A⟩:=h0;exact⟨L,h1,b,h3,f,h5,B,C,λi=>pu k M ρ _ _ (n9 hf _ _ (A i)) (D i)⟩
 |.siter _ _,_,h=>h
 |.trow t full cs,h0,h=>by
  obtain⟨a,c,e,h1,b,h3,f,g⟩:=h;obtain⟨_,p,_,_,_,_,m,_⟩:=h0;refine⟨a,c,e,h1,b,h3,λi d j=> ?_,g⟩;obtain⟨h5,v,x,y⟩:=f i d j;obtain⟨_,_,_,o⟩:=m i d j;exact⟨h5,v,x,pu k M ρ _ _ (n9 hf _ _ o) y⟩
end
def zE.gc{Q:D->Prop}(A:qM h.next args->zE P f args h λd h'=>HLe h h'/\below h.next d/\Q d)(y:pU P f=true):
  zE P f args h λd h'=>h'=h/\Q d:=by
 refine⟨y,λw0 G M ρ w J n c a hr=> ?_⟩;refine((A (nT a _ _ hr)).2 w0 G M ρ w J n c a hr).mono λe N z=> ?_;obtain⟨v,M',u,d,h',rfl,k1,k2,k3,k4,k5,k6,k7,k8⟩:=z;have o:RLe ρ (FU h.next u):=λi l b=>by rw[nM (a.lt b)];exact k2 i l b
 refine⟨v,M',FU h.next u,d,h,rfl,k1,o,?_,λi b=>iq ow,pu _ _ _ _ _ k7 k5,rfl,k8⟩;refine { below:=k3.below,imm:=k3.imm,live:=λi g b=> ?_,apart:=λi j q r H I b p s t e=> ?_,gdef:=k3.gdef,old:=k3.old }
 .obtain⟨F,k,K,x⟩:=c.live i g b
  obtain⟨l,B,C,E⟩:=k3.live i g (k6 i g b);exact⟨l,by rw[nM (a.lt k)];exact B,C,Ns a g x E⟩
 .obtain⟨F,k,_⟩:=c.live i q b
  obtain⟨L,m,_⟩:=c.live j r p;rw[nM (a.lt k)]at s;rw[nM (a.lt m)]at t;exact k3.apart i j q r H I (k6 _ _ b) (k6 _ _ p) s t e
end Go.V
