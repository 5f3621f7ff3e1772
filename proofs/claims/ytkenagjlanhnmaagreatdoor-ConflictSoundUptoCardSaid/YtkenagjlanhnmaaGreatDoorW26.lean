/- Library functions in the closed calls, and the function awake of chapter 40 returns true, part 1. No condition. -/
import Derived.Test.YtkenagjlanhnmaaGreatDoorW22
import Derived.Test.YtkenagjlanhnmaaGreatDoorW23
import Derived.Test.YtkenagjlanhnmaaGreatDoorW24
import Derived.Test.YtkenagjlanhnmaaGreatDoorW25
import Derived.Deep.RegionLaw
set_option linter.all false
set_option maxHeartbeats 8000000
namespace Go.V
open Go.Proofs.Tryz
open Go.Proofs
def zEz:Ht prog zH8:=λg args h r a=>by
 unfold zH8 at a;split at a
 .rename_i f
  have e:g=158:=z6 f;subst e;exact bm a λd b=>Xb kr (λs c w=>Tryz.strings_Count_one s c w) b h
 .skip
  split at a
  .rename_i f
   have e:g=159:=z6 f;subst e;exact bm a λd b=>cM kr (λs c w=>Tryz.strings_Index_one s c w) b h
  .skip
   split at a
   .rename_i f
    have e:g=213:=z6 f;subst e;exact bm a λd b=>cM kr (λs c w=>Tryz.stringslite_Index_one s c w) b h
   .skip
    split at a
    .rename_i f
     have e:g=214:=z6 f;subst e;exact bm a λd b=>VF kr (λs c w h0 h1 i h3=>Mh Tryz.lays160 kr s c w h0 h1 i h3) b h
    .skip
     split at a
     .rename_i f
      have e:g=35:=z6 f;subst e;exact bm a λd b=>Ug b
     .skip
      cases a
set_option maxRecDepth 100000
def rS{m:sJ}{e:rC}(b:dQ prog m)(c:rI m e)(h1:p5 e.2.1=true:=by rfl)(a:gG e.2.2=true:=by rfl):dQ prog (e::m):=dQ.add mix zHE zEz b h1 a c
def k0:dQ prog m0:=trivial
def k1:=rS k0 r1
def k2:=rS k1 r2
def k3:=rS k2 r3
def k4:=rS k3 r4
def k5:=rS k4 r5
def k6:=rS k5 r6
def k7:=rS k6 r7
def k8:=rS k7 r8
def k9:=rS k8 r9
def k10:=rS k9 r10
def k11:=rS k10 r11
def k12:=rS k11 r12
def k13:=rS k12 r13
def k14:=rS k13 r14
def k15:=rS k14 r15
def k16:=rS k15 r16
def k17:=rS k16 r17
def k18:=rS k17 r18
def k19:=rS k18 r19
def k20:=rS k19 r20
def k21:=rS k20 r21
def k22:=rS k21 r22
def k23:=rS k22 r23
def k24:=rS k23 r24
def k25:=rS k24 r25
def k26:=rS k25 r26
def k27:=rS k26 r27
def k28:=rS k27 r28
def k29:=rS k28 r29
def k30:=rS k29 r30
def k31:=rS k30 r31
def k32:=rS k31 r32
def k33:=rS k32 r33
def k34:=rS k33 r34
def k35:=rS k34 r35
def k36:=rS k35 r36
def k37:=rS k36 r37
def k38:=rS k37 r38
def k39:=rS k38 r39
def k40:=rS k39 r40
def k41:=rS k40 r41
def k42:=rS k41 r42
def k43:=rS k42 r43
def k44:=rS k43 r44
def k45:=rS k44 r45
def k46:=rS k45 r46
def k47:=rS k46 r47
def k48:=rS k47 r48
def k49:=rS k48 r49
def k50:=rS k49 r50
def k51:=rS k50 r51
def k52:=rS k51 r52
def k53:=rS k52 r53
def k54:=rS k53 r54
def k55:=rS k54 r55
def k56:=rS k55 r56
def k57:=rS k56 r57
def k58:=rS k57 r58
def k59:=rS k58 r59
def k60:=rS k59 r60
def k61:=rS k60 r61
def k62:=rS k61 r62
def k63:=rS k62 r63
def k64:=rS k63 r64
def k65:=rS k64 r65
def k66:=rS k65 r66
def k67:=rS k66 r67
def k68:=rS k67 r68
def k69:=rS k68 r69
def k70:=rS k69 r70
def k71:=rS k70 r71
def Z3(h:Heap):zD prog 8 [] h λa b=>a=.bool true/\b=h:=k71.1 h
end Go.V
namespace Go.Proofs
open Go.RowKit Go.Lib Go.Sort Go.Shelf Go.V
def Tryz.infoFact:(Tryz.prog.info? 57).map (λi=>(i.zero,i.size,i.bytes))=some (some (.agg #[.int .i64 0,.string ⟨#[]⟩,.string ⟨#[]⟩,.int .i64 0,.int .i64 0,.int .i64 0,.bool false,.int .i64 0,.string ⟨#[]⟩,.string ⟨#[]⟩,.slice none 0 0,.slice none 0 0]),12,160):=kr
def zFv:List Value:=[.int .i64 0,.string ⟨#[]⟩,.string ⟨#[]⟩,.int .i64 0,.int .i64 0,.int .i64 0,.bool false,.int .i64 0,.string ⟨#[]⟩,.string ⟨#[]⟩,.slice none 0 0,.slice none 0 0]
def HU:∀v∈zFv,v.oneCell'=true:=jD
def Tc(z:Array Value):(Builtin.zeroCells z 1).toList=z.toList:=by
 simp only[Builtin.zeroCells,pU,wk,Array.toList_range];apply List.ext_getElem
 .simp
 .intro i h1 b
  have a:i<z.size:=by simpa using b
  simp[jj a,a]
def Wi(w:World)(ty:TypeId)(b o c:Nat)(f:∀j,j<12->(w.cell? ⟨b,o+j,none⟩).isSome=true)(hf:∀j,j<12->w.frozen? ⟨b,o+j,none⟩ =false):
  (Builtin.clear_ #[29] ty #[.slice (some ⟨b,o,none⟩) 1 c]).run Tryz.prog w=.ok (.tuple #[]) (w.setCells b o zFv):=by
 have d:Tryz.t57.zero=some (.agg #[.int .i64 0,.string ⟨#[]⟩,.string ⟨#[]⟩,.int .i64 0,.int .i64 0,.int .i64 0,.bool false,.int .i64 0,.string ⟨#[]⟩,.string ⟨#[]⟩,.slice none 0 0,.slice none 0 0]):=kr;have e:=Tc (#[.int .i64 0,.string ⟨#[]⟩,.string ⟨#[]⟩,.int .i64 0,.int .i64 0,.int .i64 0,.bool false,.int .i64 0,.string ⟨#[]⟩,.string ⟨#[]⟩,.slice none 0 0,.slice none 0 0]:Array Value);have a:=run_storeCells_cells (P:=Tryz.prog) b o zFv 0 w (by simpa [zFv]using f) (by simpa [zFv]using hf) HU;simp only[qo]at a;unfold zFv at a⊢
 simp[Builtin.clear_,zU (show Tryz.prog.underlying 29=some (.slice 57) by kernel_rfl),zeroValue,d,Value.cells,e,a]
set_option maxRecDepth 1000000 in
theorem Tryz.delete_fact(a cap n i j:Nat)(d:List Value)(w:World)(x:d.length=n*12)(h1:∀u∈d,u.oneCell'=true)(B:n<=cap)(Q:cap<=9223372036854775807)(O:i<n)(r:j=i+1)
  (p:∀t,t<d.length->w.cell? ⟨a,t,none⟩ =some (d.getD t undef)/\w.frozen? ⟨a,t,none⟩ =false):
  Calls Tryz.prog 15 #[.slice (some ⟨a,0,none⟩) n cap,.int .i64 i,.int .i64 j] w λe M=>e=.returned (.slice (some ⟨a,0,none⟩) (i+(n-j)) cap)/\M=(w.drew.setCells a (i*12) (d.drop (j*12))).setCells a ((i+(n-j))*12) zFv:=by
 obtain⟨K,y,I,z,J⟩:=info_parts Tryz.infoFact;obtain⟨b,f⟩:∃b,b=d.drop (j*12):=⟨_,rfl⟩;have c:b.length=(n-j)*12:=by rw[f,qJ,x];omega
 have o:∀t,t<b.length->b[t]? =some (d.getD (j*12+t) undef):=by
  intro t g;rw[c]at g;rw[f,yy,zE,zB ow];rfl
 obtain⟨A,N,s⟩:∃A:Addr,(if cap=j then some (⟨a,0,none⟩:Addr)else some ⟨a,j*12,none⟩)=some A/\Hid (∀t u,b[t]? =some u->w.drew.cell? (A.add t)=some u):=by
  by_cases h:cap=j
  .refine⟨⟨a,0,none⟩,by simp[h],λt u m=> ?_⟩
   have h0:b.length=0:=by rw[c];omega
   rw[ye.1 h0]at m;simp at m
  .refine⟨⟨a,j*12,none⟩,by simp[h],λt u m=> ?_⟩
   have g:=(zK.1 m).1;rw[o t g]at m;rw[Addr.add_lit];rw[c]at g;exact(p (j*12+t) ow).1.trans m
 have s1:Hid (b.length=(n-j)*12):=c;have s2:Hid (∀u∈b,u.oneCell'=true):=λu m=>h1 u (by rw[f]at m;exact Go.V.t7 m);have L:Hid (∀t,t<b.length->(w.drew.cell? ⟨a,0+i*12+t,none⟩).isSome=true/\w.drew.frozen? ⟨a,0+i*12+t,none⟩ =false):=by
  intro t g;rw[c]at g;rw[yH];exact⟨by show(w.cell? _).isSome=true;rw[(p (i*12+t) ow).1];rfl,(p (i*12+t) ow).2⟩
 have F:i<=cap:=ow;have H:j<=cap:=ow;have G:i<j:=ow;have P:j<=n:=ow;have R:Hid (j=i+1):=r;obtain⟨k,l⟩:∃k,k=w.drew.setCells a (0+i*12) b:=⟨_,rfl⟩;have v:∀t,t<12->(k.cell? ⟨a,(i+(n-j))*12+t,none⟩).isSome=true/\k.frozen? ⟨a,(i+(n-j))*12+t,none⟩ =false:=λt g=>by
  have C:(i+(n-j))*12+t<d.length:=by rw[x];omega
  rw[l,World.frozen?_setCells,World.cell?_setCells_out _ _ _ _ _ (λ_ _=>.inr (by rw[c];show _<=(i+(n-j))*12+t;omega))];exact⟨by show(w.cell? _).isSome=true;rw[(p _ C).1];rfl,(p _ C).2⟩
 have E:∀ty,(Builtin.clear_ #[29] ty #[.slice (some ⟨a,(i+(n-j))*12,none⟩) (n- (i+(n-j))) (cap- (i+(n-j)))]).run Tryz.prog k=.ok (.tuple #[]) (k.setCells a ((i+(n-j))*12) zFv):=λty=>by
  rw[show n- (i+(n-j))=1 by omega];exact Wi k ty a _ _ (λt g=>(v t g).1) λt g=>(v t g).2
 have D:Hid (k=w.drew.setCells a (0+i*12) b):=l;have q:Aside (k=w.drew.setCells a (i*12) (d.drop (j*12))):=by rw[l,f,yH];rfl
 clear o r p v l f c x h1
 go_enter Tryz.func15,Tryz.ntmps15
 go_wp2_with fail
 go_region_law (refine step_append_room rfl (.tmp 22) (.tmp 25) 29 rfl 57 K 12 (show Tryz.prog.underlying 29=some (.slice 57) by kernel_rfl) y z a 0 i cap (by simp[Act.eval,Act.put]) A (n-j) (cap-j) b (by simp[Act.eval,Act.put]) s1.out s.out s2.out ow L.out ?_;rw[<-D.out])
 go_wp2
 go_ret
 exact⟨rfl,by rw[<-q.out]⟩
end Go.Proofs
namespace Go.V
open Go.RowKit (Below)
def Gz(P:Program)(mu:Tmp->Bool)(ops:Array Oper)(j:Nat)(s:Fl):Bool:= !s.isAl&&match ops[j]? with
 |none=>false
 |some oj=>(s.isS1||sy P (aS mu oj.dst) oj.op)&&(List.range ops.size).all λi=>Nat.beq i j||match ops[i]? with
  |none=>true
  |some oi=>(oi.after.toList.any λe=>Region.binds .any e&&Nat.beq e.on j)||oj.apart ops oi
def QF(P:Program)(mu:Tmp->Bool)(ops:Array Oper)(f:Array Bool->Pl->Bool)(listed:Array Bool)(pl:Pl):Bool:=
 (!(Region.ready .any ops listed).isEmpty||(match pl with
  |.nil=>true
  |_=>false))&&(Region.ready .any ops listed).all λi=>match IQ P mu ops i pl with
   |none=>false
   |some x=> !x.1.isAl&&f (listed.setIfInBounds i true) x.2
def Zo(P:Program)(mu:Tmp->Bool)(ops:Array Oper):Nat->Array Bool->Pl->Bool
 |0,listed,pl=>jm P mu ops 0 listed pl
 |fuel+1,listed,pl=>match pl with
  |.op j s r=>match(Region.ready .any ops listed).any (Nat.beq j)&&Gz P mu ops j s with
   |true=>Zo P mu ops fuel (listed.setIfInBounds j true) r
   |false=>QF P mu ops (Zo P mu ops fuel) listed pl
  |_=>QF P mu ops (Zo P mu ops fuel) listed pl
section
variable{P:Program}{mu:Tmp->Bool}{ops:Array Oper}
def Xn(fuel:Nat)(listed:Array Bool)(pl:Pl):jm P mu ops (fuel+1) listed pl=QF P mu ops (jm P mu ops fuel) listed pl:=rfl
def ZD{f g:Array Bool->Pl->Bool}(b:∀l p,f l p=true->g l p=true){listed:Array Bool}{pl:Pl}(h:QF P mu ops f listed pl=true):QF P mu ops g listed pl=true:=by
 unfold QF at h⊢;simp only[zF,zT]at h⊢;refine⟨h.1,λi c=> ?_⟩;have a:=h.2 i c;split at a
 .cases a
 .rename_i x d
  simp only[zF]at a⊢;exact⟨a.1,b _ _ a.2⟩
variable{j:Nat}
def LS{s:Fl}(hf:Gz P mu ops j s=true):∀(fuel:Nat)(listed:Array Bool)(r:Pl),j∈Region.ready .any ops listed->jm P mu ops fuel (listed.setIfInBounds j true) r=true->jm P mu ops (fuel+1) listed (.op j s r)=true:=by
 intro fuel
 induction fuel with
 |zero=>
  intro listed r hr h;rw[Xn];unfold QF;have k:(Region.ready .any ops listed).isEmpty=false:=by
   cases e:Region.ready .any ops listed with
   |nil=>rw[e]at hr;cases hr
   |cons a l=>rfl
  simp only[zF,zT,k];refine⟨rfl,λi p=> ?_⟩;by_cases c:i=j
  .subst c
   have g:Nat.beq i i=true:=Nat.beq_refl i;unfold Gz at hf;simp only[zF]at hf;simp only[IQ,g,zF];exact⟨hf.1,h⟩
  .have f:=ready_mono p c
   simp only[jm,zF,List.isEmpty_iff]at h;rw[h.1]at f;cases f
 |succ fuel C=>
  intro listed r hr h;have y:=hf;unfold Gz at hf;simp only[zF]at hf;obtain⟨n,hf⟩:=hf;obtain⟨d,E,o,_⟩:=gX.1 hr;rw[o]at hf;simp only[zF,zT,yz]at hf;have h0:=h;rw[Xn]at h⊢;unfold QF at h⊢;have k:(Region.ready .any ops listed).isEmpty=false:=by
   cases e:Region.ready .any ops listed with
   |nil=>rw[e]at hr;cases hr
   |cons a l=>rfl
  simp only[zF,zT,k]at h⊢;refine⟨rfl,λi p=> ?_⟩;by_cases c:i=j
  .subst c
   have g:Nat.beq i i=true:=Nat.beq_refl i;simp only[IQ,g,zF];exact⟨n,h0⟩
  .have f:=h.2 i (ready_mono p c)
   have g:Nat.beq i j=false:=by
    cases g:Nat.beq i j with
    |false=>rfl
    |true=>exact absurd (z6 g) c
   obtain⟨z,D,m,u⟩:=gX.1 p;have h3:=hf.2 i (yF.1 m).1;rw[g,m]at h3;have t:E.apart ops D=true:=by
    simp only[uw,yn,yu,zF,Array.mem_toList_iff]at h3;rcases h3 with⟨e,w,k1,k2⟩ |h3
    .have k3:=u e w k1
     have k4:e.on=j:=z6 k2;rw[k4]at k3
     have:listed.getD j true=listed.getD j false:=by
      simp only[wQ]at d k3⊢;cases B:listed[j]? with
      |none=>rw[B]at d;cases d
      |some b=>rfl
     rw[this,k3]at d;cases d
    .exact h3
   split at f
   .cases f
   .rename_i x A
    simp only[zF]at f;have v:kR P mu ops (j,s) (i,x.1)=true:=by
     unfold kR;simp only[o,m,t,uT];rcases Bool.or_eq_true_iff.1 hf.1 with q|q<;>simp[q]
    simp only[IQ,g,A,n,v,wU,zF];refine⟨f.1,C _ _ (ready_mono hr (km c)) ?_⟩;rw[Array.setIfInBounds_comm _ _ c];exact f.2
theorem ma:∀(fuel:Nat)(listed:Array Bool)(pl:Pl),Zo P mu ops fuel listed pl=true->jm P mu ops fuel listed pl=true
 |0,_,_,h=>h
 |fuel+1,listed,pl,h=>by
  cases pl with
  |op j s r=>
   simp only[Zo]at h;split at h
   .rename_i c
    simp only[zF,yu]at c;obtain⟨⟨i,d,e⟩,hf⟩:=c;have e:=z6 e;subst e;exact LS hf _ _ _ d (ma _ _ _ h)
   .exact ZD (λl p=>ma fuel l p) h
  |nil=>simp only[Zo]at h;exact ZD (λl p=>ma fuel l p) h
  |or a b=>simp only[Zo]at h;exact ZD (λl p=>ma fuel l p) h
end
def dy(P:Program)(g:Cfg)(n:Nat)(ro:Option Nat)(k:Nat)(pl:Pl):Code->(Exit->Frm->Heap->Prop)->Frm->Heap->Prop
 |.seq a b,Q,fr,h=>dy P g n ro k pl a (lr (dy P g n ro k pl b Q) Q) fr h
 |.region id ops draw,Q,fr,h=>match Nat.beq id k with
  |true=>∃h0,HLe h0 h/\fH P g.mu h0 ops pl (Q .normal) fr h
  |false=>vwp P g n ro (.region id ops draw) Q fr h
 |.cond c a b,Q,fr,h=>match qy fr c with
  |.bool b'=>match b' with
   |true=>dy P g n ro k pl a Q fr h
   |false=>dy P g n ro k pl b Q fr h
  |_=>False
 |.block id c,Q,fr,h=>dy P g n ro k pl c (jk id Q) fr h
 |.loop c,Q,fr,h=>∃I:Nat->Frm->Heap->Prop,(∃k,I k fr h)/\∀m fr h,I m fr h->dy P g n ro k pl c (lr (λfr h=>∃j,j<m/\I j fr h) Q) fr h
 |co,Q,fr,h=>vwp P g n ro co Q fr h
def oT(P:Program)(g:Cfg)(n:Nat)(k:Nat)(pl:Pl):Code->Bool
 |.seq a b=>oT P g n k pl a&&oT P g n k pl b
 |.region id ops draw=>match Nat.beq id k with
  |true=>Wf n ops&&(draw&&Zo P g.mu ops ops.size (Array.replicate ops.size false) pl)
  |false=>tO P g n (.region id ops draw)
 |.cond c a b=>FL c&&oT P g n k pl a&&oT P g n k pl b
 |.block _ c=>oT P g n k pl c
 |.loop c=>oT P g n k pl c
 |co=>tO P g n co
def zAN(P:Program)(g:Cfg)(k:Nat)(pl:Pl)(fn:Func):Bool:=
 match fn.body with
 |some co=>oT P g fn.ntmps k pl co&& !(fn.name== "runtime.NumGoroutine")
 |none=>false
section
variable{P:Program}{g:Cfg}{c:Ctx P}{ms:List Nat}{n:Nat}{fr:Frm}{h:Heap}{a:Act}{w:World}{ro rb:Option Nat}{k:Nat}{pl:Pl}
theorem o6(o:P.follows .mixedOrders=true):∀(co:Code)(c:Ctx P)(Q:Exit->Frm->Heap->Prop)(ms:List Nat)(fr:Frm)(h:Heap)(a:Act)(w:World),oT P g n k pl co=true->zHs c ro rb->StM c ms n fr h a w->dy P g n ro k pl co Q fr h->
  co.wpIn (Fr rb) 0 P (KU c n Q) a w
 |.seq x y,c,Q,ms,fr,h,a,w,d,j,q,p=>by
  simp only[oT,zF]at d;simp only[dy]at p;refine wpIn_seq (rc (o6 o x c _ ms fr h a w d.1 j q p) λe H O s=> ?_);obtain⟨v,r,h',u,s⟩:=s;cases e with
  |normal=>exact o6 o y c Q v r h' H O d.2 j u s
  |_=>exact⟨v,r,h',u,s⟩
 |.region id ops K,c,Q,ms,fr,h,a,w,d,j,q,p=>by
  refine ZR (g:=g) (k:=k) (pl:=pl) o (.region id ops K) c Q ms fr h a w ?_ j q ?_
  .simp only[oT]at d
   simp only[ae];split at d
   .rename_i e
    rw[e];simp only[zF]at d⊢;exact⟨d.1,d.2.1,ma _ _ _ d.2.2⟩
   .rename_i e
    rw[e];exact d
  .exact p
 |.block id x,c,Q,ms,fr,h,a,w,d,j,q,p=>by
  simp only[oT]at d;simp only[dy]at p;refine wpIn_block (rc (o6 o x c _ ms fr h a w d j q p) λe H O s=> ?_);obtain⟨v,r,h',u,s⟩:=s;cases e with
  |exit i=>
   simp only[jk]at s;simp only[Exit.inBlock];split at s
   .rename_i S;rw[ip S];exact⟨v,r,h',u,s⟩
   .rename_i S;rw[iq S];exact⟨v,r,h',u,s⟩
  |_=>exact⟨v,r,h',u,s⟩
 |.cond x y z,c,Q,ms,fr,h,a,w,d,j,q,p=>by
  simp only[oT,zF]at d;simp only[dy]at p;obtain⟨M,ρ,h1,G,h3,Z,h5,h6,h7⟩:=q.1;have C:=fy h5 d.1.1;split at p
  .rename_i b X
   rw[X]at C;simp only[rel]at C;refine wpIn_cond (t:=b) C ?_;cases b with
   |true=>exact o6 o y c Q ms fr h a w d.1.2 j q p
   |false=>exact o6 o z c Q ms fr h a w d.2 j q p
  .exact p.elim
 |.loop x,c,Q,ms,fr,h,a,w,d,j,q,p=>by
  simp only[oT]at d;simp only[dy]at p;obtain⟨I,⟨k,W⟩,B⟩:=p
  classical
  let J:Nat->Act->World->Prop:=λk a w=>∃ms fr h,StM c ms n fr h a w/\I k fr h
  have A:∀a w,∃m,(∃k,J k a w)->J m a w/\∀k,J k a w->m<=k:=λa w=>by
   by_cases C:∃k,J k a w
   .obtain⟨k,Y⟩:=C
    obtain⟨m,h1,G⟩:=zEy (J:=λk=>J k a w) k Y;exact⟨m,λ_=>⟨h1,G⟩⟩
   .exact⟨0,λh=>absurd h C⟩
  let μ:Act->World->Nat:=λa w=>Classical.choose (A a w)
  have U:∀a w,(∃k,J k a w)->J (μ a w) a w/\∀k,J k a w->μ a w<=k:=λa w=>j0 (A a w);refine wpIn_loop (λa w=>∃k,J k a w) μ ⟨k,ms,fr,h,q,W⟩ λa w C=> ?_;obtain⟨⟨v,r,h',u,R⟩,_⟩:=U a w C;refine rc (o6 o x c _ v r h' a w d j u (B _ _ _ R)) λe H O s=> ?_;obtain⟨F,D,G,E,s⟩:=s;cases e with
  |normal=>
   obtain⟨m,T,L⟩:=s;have N:∃k,J k H O:=⟨m,F,D,G,E,L⟩;exact⟨N,Nat.lt_of_le_of_lt ((U H O N).2 m ⟨F,D,G,E,L⟩) T⟩
  |_=>exact⟨F,D,G,E,s⟩
 |.skip,c,Q,ms,fr,h,a,w,d,j,q,p=>qp o _ c Q ms fr h a w d j q p
 |.exit id,c,Q,ms,fr,h,a,w,d,j,q,p=>qp o _ c Q ms fr h a w d j q p
 |.ret,c,Q,ms,fr,h,a,w,d,j,q,p=>qp o _ c Q ms fr h a w d j q p
 |.rangeFunc f ps V body,c,Q,ms,fr,h,a,w,d,j,q,p=>qp o _ c Q ms fr h a w d j q p
 |.label l,c,Q,ms,fr,h,a,w,d,j,q,p=>qp o _ c Q ms fr h a w d j q p
 |.goto l,c,Q,ms,fr,h,a,w,d,j,q,p=>qp o _ c Q ms fr h a w d j q p
 |.scope x,c,Q,ms,fr,h,a,w,d,j,q,p=>qp o _ c Q ms fr h a w d j q p
 |.refuse l,c,Q,ms,fr,h,a,w,d,j,q,p=>qp o _ c Q ms fr h a w d j q p
variable{f:FuncId}{args:List D}{Q:D->Heap->Prop}
def zD.of_fnU(k:Nat)(pl:Pl)(m:P.follows .mixedOrders=true){fn:Func}{co:Code}(hf:P.funcs[f]? =some fn)(a:zAN P g k pl fn=true)(j:fn.body=some co)(u:Nat.ble args.length fn.ntmps=true)
  (D:dy P g fn.ntmps none k pl co (Hi P fn.results.toList Q) (V.UX args) h):zD P f args h Q:=by
 unfold zAN at a;rw[j]at a;simp only[zF,qI]at a;obtain⟨a,B⟩:=a;have u:=rO u;refine⟨by simp[rP,hf,j,bne,B],λw0 G M ρ w x l C q hr=> ?_⟩;have s:=yw hr;rw[yI]at s;refine gL.1 (cF (F:=Fence.wide) (n:=0) hf j trivial ?_);have r:StM ⟨w0,G,M,ρ,l⟩ [] fn.ntmps (V.UX args) h { tmps:=x++Array.replicate (fn.ntmps-x.size) undef,defers:=[] } w:=
  ⟨⟨M,ρ,MLe.refl _,RLe.refl _,C,q,VY hr _,rfl,jO⟩,lR,λb j=>by cases j⟩
 refine rc (o6 (ro:=none) (rb:=none) m co ⟨w0,G,M,ρ,l⟩ _ [] _ _ _ _ a trivial r D) λe t y d=> ?_;obtain⟨ms,p,h',⟨⟨M',E,k1,k2,k3,k4,k5,k6,k7⟩,k8,k9⟩,d⟩:=d;have i:∀ds,n8 P p h' fn.results.toList=some ds->Q (bi ds) h'->LeavesInM Fence.wide 0 P fn t.tmps (Ret w0 G M ρ Q) t.defers .returning y:=λds c z=>by
  rw[k6];refine ZO ms y k3 k8 k9 λH o=> ?_;obtain⟨v,r1,r2⟩:=X6 (P:=P) o k5 c;exact⟨v,r1,v,M',E,_,h',rfl,k1,k2,o,k4,r2,z⟩
 unfold Hi at d;obtain⟨A,d⟩:=d;split at d
 .rename_i ds c
  cases e with
  |normal=>exact i ds c d
  |ret=>exact i ds c d
  |_=>exact A.elim
 .exact d.elim
end
section
variable{P:Program}{g:Cfg}{n:Nat}{ro:Option Nat}{k:Nat}{pl:Pl}{mu:Tmp->Bool}{h0:Heap}{Q:Exit->Frm->Heap->Prop}{fr:Frm}{h:Heap}{K:Frm->Heap->Prop}
variable{id:Nat}
def HO(h0:Heap)(R:Frm->Heap->Prop){l:List Oper}(hid:Nat.beq id k=true)(a:HLe h0 h)(c:vtw P g.mu h0 l.toArray pl R fr h)(b:∀fr h,R fr h->Q .normal fr h):dy P g n ro k pl (.region id l.toArray true) Q fr h:=by
 simp only[dy,hid];exact⟨h0,a,dE b _ _ _ (Yb _ _ _ c)⟩
def zIn(a b:Code):dy P g n ro k pl (.seq a b) Q fr h=dy P g n ro k pl a (lr (dy P g n ro k pl b Q) Q) fr h:=(rfl)
def zB6(id:Nat)(c:Code):dy P g n ro k pl (.block id c) Q fr h=dy P g n ro k pl c (jk id Q) fr h:=(rfl)
def zIm:dy P g n ro k pl .ret Q fr h=vwp P g n ro .ret Q fr h:=(rfl)
def zHi:dy P g n ro k pl .skip Q fr h=vwp P g n ro .skip Q fr h:=(rfl)
def zHh(i:Nat):dy P g n ro k pl (.exit i) Q fr h=vwp P g n ro (.exit i) Q fr h:=(rfl)
def zHg(c:Operand)(a b:Code):dy P g n ro k pl (.cond c a b) Q fr h=onB (qy fr c) (dy P g n ro k pl a Q fr h) (dy P g n ro k pl b Q fr h):=by
 simp only[dy];rfl
def zL1(hid:(id==k)=false)(ops:Array Oper)(d:Bool):dy P g n ro k pl (.region id ops d) Q fr h=vwp P g n ro (.region id ops d) Q fr h:=by
 have hid:Nat.beq id k=false:=by
  cases hb:Nat.beq id k with
  |false=>rfl
  |true=>rw[z6 hb]at hid;simp at hid
 simp only[dy,hid]
def KJ{c:Code}(J:Nat->Frm->Heap->Prop)(len:Nat)(e:len<=1073741824)(b:J 0 fr h)
  (step:∀(i:Nat) fr h (N:Frm->Heap->Prop),i<len->decide ((i:Int)<(len:Int))=true->IntKind.i64.wrap ((i:Int)+1)=((i+1:Nat):Int)->J i fr h->(∀fr h,J (i+1) fr h->N fr h)->dy P g n ro k pl c (lr N Q) fr h)
  (last:∀fr h (N:Frm->Heap->Prop),decide ((len:Int)<(len:Int))=false->J len fr h->dy P g n ro k pl c (lr N Q) fr h):dy P g n ro k pl (.loop c) Q fr h:=by
 simp only[dy];refine⟨λk fr h=>∃i,k=len-i/\i<=len/\J i fr h,⟨len,0,jS,yM _,b⟩,?_⟩;rintro m fr h ⟨i,rfl,l,d⟩;by_cases a:i<len
 .exact step i fr h _ a (zR ow) (qH jL) d λfr h j=>⟨len- (i+1),ow,i+1,rfl,a,j⟩
 .have f:i=len:=ow
  subst f;exact last fr h _ (zN ow) d
end
attribute[go_sem ↓] zIn zB6 zIm zHi zHh zHg zL1
end Go.V
