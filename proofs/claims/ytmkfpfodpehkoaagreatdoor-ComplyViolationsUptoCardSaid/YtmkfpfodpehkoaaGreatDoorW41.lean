/- A machine of abstract values for programs of the model, further rules, part 3. No condition. -/
import Derived.Test.YtmkfpfodpehkoaaGreatDoorW40
set_option linter.all false
set_option maxHeartbeats 8000000
namespace Go.V
variable{P:Program}{h h0:Heap}{sz:Nat}{xs ys:List (List D)}{d x:D}{K:D->Heap->Prop}
def rc.app3{t e:TypeId}(m:rc h sz xs d)(l:tQ P t=some e)(o:X0 P e=true)(n:szT P e=sz)(h0:0<sz)(k:∀y∈ys,y.length=sz)(s:(x=.nilsl/\ys= [])\/(ys≠[]/\∃tk,x=.sl sz ys tk))
  (f:(xs.length+ys.length)*uW P e<=lim) (g:xs.length+ys.length<=lim) (c:∀a h',rc h' sz (xs++ys) a->h.next<=h'.next->(∀i,i<h.next->¬pT d i->h'.at' i=h.at' i)->(∀i,pT a i->h.next<=i)->a.cells= [a]->a.flat=true->K a h'):onR (qh P false h.next t d x h) K:=by
 rcases s with⟨rfl,rfl⟩ | ⟨j,tk,rfl⟩
 ·simp only[zp,yw,wl]at c f g;simp only[qh,l,o,n,LF,qG,yw,Nat.zero_div];rcases m with⟨rfl,rfl⟩ | ⟨q,rfl,h1,u⟩
  ·simp only[th,qG,Zx];exact c _ _ (.inl ⟨rfl,rfl⟩) (zD _) (λi b _=>rfl) (λi b=>b.elim) rfl rfl
  ·simp only[th];rw[ip (by simp only[wl,zC,zP];exact⟨⟨trivial,f⟩,g⟩)];simp only[h1,zW,yz,Zx];have p:wY sz 0 []= []:=rfl;rw[p,zp];refine c _ _ (.inr ⟨h.next,rfl,yQ _ _ _,?_⟩) ?_ (λi b r=> ?_) (λi b=> ?_) rfl rfl
   ·exact zy (se _) (jj _ _)
   ·exact sF (h.del q) _ _
   ·rw[zz ow,uK λe=>r (by rw[e];rfl)]
   ·simp only[pT]at b;omega
 ·exact m.app2 l o n h0 k j f g c
def rc.app4{t e:TypeId}(o:rc h sz xs d)(m:tQ P t=some e)(s:X0 P e=true)(p:szT P e=sz)(h0:0<sz)(k:∀y∈ys,y.length=sz)(r:(x=.nilsl/\ys= [])\/(ys≠[]/\∃tk,x=.sl sz ys tk))
  (l:(xs.length+ys.length)*uW P e<=lim) (n:xs.length+ys.length<=lim):∃j h',qh P false h.next t d x h=some (j,h')/\rc h' sz (xs++ys) j/\h.next<=h'.next/\(∀i,i<h.next->¬pT d i->h'.at' i=h.at' i)/\(∀i,pT j i->h.next<=i)/\j.cells= [j]/\j.flat=true:=by
 have:=o.app3 (K:=λj h'=>rc h' sz (xs++ys) j/\h.next<=h'.next/\(∀i,i<h.next->¬pT d i->h'.at' i=h.at' i)/\(∀i,pT j i->h.next<=i)/\j.cells= [j]/\j.flat=true) m s p h0 k r l n λj h' a b c e f g=>⟨a,b,c,e,f,g⟩;unfold onR at this;split at this
 ·rename_i j h' q;exact⟨j,h',q,this⟩
 ·exact this.elim
def Own.appI{t e:TypeId}{w:HidR K}(a:Own h0 h sz xs d)(m:tQ P t=some e)(s:X0 P e=true)(p:szT P e=sz)(A:0<sz)(l:∀y∈ys,y.length=sz)(k:ye sz ys x)
  (v:(xs.length+ys.length)*uW P e<=lim) (z:xs.length+ys.length<=lim) (u:∀g h',Own h0 h' sz (xs++ys) g->K g h'):Ei (qh P false h.next t d x h) K w:=by
 have key:∀x,((x=.nilsl/\ys= [])\/(ys≠[]/\∃tk,x=.sl sz ys tk))->onR (qh P false h.next t d x h) K:=λx k=>
  a.2.1.app3 m s p A l k v z λg h' o n b tk c f=>u g h' ⟨⟨za a.1.1 n,λi j=>by rw[b i (zy j a.1.1) (λq=>by have:=a.2.2 i q;omega)];exact a.1.2 i j⟩,o,λi j=>za a.1.1 (tk i j)⟩
 rcases k with⟨rfl,rfl⟩ | ⟨tk,rfl⟩
 ·exact key _ (.inl ⟨rfl,rfl⟩)
 ·by_cases r:ys= []
  ·subst r
   have:qh P false h.next t d (.sl sz [] tk) h=qh P false h.next t d .nilsl h:=by simp[qh,m,s,p,LF]
   show onR _ K;rw[this];exact key _ (.inl ⟨rfl,rfl⟩)
  ·exact key _ (.inr ⟨r,tk,rfl⟩)
open Go.Proofs.Tryz
open Go.Proofs
set_option maxRecDepth 100000
structure AltB(m:Nat)(a:Alt):Prop where
 sl:ye 2 (wW a.ts) a.d
 len:a.ts.length<=m
 pl:sH [a.d]
theorem AltB.io{m:Nat}{a:Alt}(h:AltB m a):ye 2 (wW a.ts) a.d/\a.ts.length<=m:=⟨h.sl,h.len⟩
theorem AltB.mono{m n:Nat}{a:Alt}(h:AltB m a)(b:m<=n):AltB n a:=⟨h.sl,za h.len b,h.pl⟩
theorem kN{sz:Nat}{xs:List (List D)}{d:D}(h:Fin sz xs d)(b:∀x∈xs,sH x):sH [d]:=by
 rcases h with⟨rfl,_⟩ |rfl
 ·exact⟨rfl,by simp[qZ,below],rfl⟩
 ·have a:=qg (sz:=sz) b .no;exact⟨rfl,by simp only[qZ,zS];exact a.2,by simp only[wU,a.1]⟩
theorem AltB.of{m:Nat}{a:List Trm}{d:D}(h:Fin 2 (wW a) d)(b:a.length<=m):AltB m ⟨a,d⟩:=⟨h.isSl,b,kN h (VF _)⟩
theorem UE{m:Nat}{a:Alt}(b:AltB m a)(nid:Nat)(h:Heap):yB prog false nid 30 1 [(0,a.d)] h=some (.sl 1 [[a.d]] .full,h):=by
 obtain⟨k1,k2,k3⟩:=yR b.sl;exact dz a.d nid h k1 k2 k3
def sT(a b:List Alt)(i k:Nat):List (List Trm):=((List.range (i*b.length+k)).map (gS a b)).map wn
theorem KR(a b:List Alt){i:Nat}(c:i<a.length):sT a b (i+1) 0=sT a b i b.length:=by
 unfold sT;rw[qf];rfl
theorem MZ{a b:List Alt}{i k:Nat}(e:i<a.length)(c:k<b.length):sT a b i (k+1)=sT a b i k++ [wn (a[i].ts++b[k].ts)]:=by
 unfold sT;rw[<-wB,sG,yX,yX];congr 1;have h1:(i*b.length+k)/b.length=i:=by rw[pU,Nat.mul_add_div ow,Nat.div_eq_of_lt c,wl]
 have d:(i*b.length+k)%b.length=k:=by rw[pU,Nat.mul_add_mod,jk c]
 simp only[qL,rL,gS,h1,d,rQ e,rQ c]
theorem Qh(a b:List Alt):sT a b a.length 0=(pZ (a.map Alt.ts) (b.map Alt.ts)).map wn:=by
 unfold sT pZ gT;rw[wl];simp only[zI];congr 1;refine wI λk c=> ?_;have c:=uZ.1 c;have f:0<b.length:=Nat.pos_of_ne_zero λe=>by rw[e,Nat.mul_zero]at c;omega
 have h1:k/b.length<a.length:=Nat.div_lt_of_lt_mul (by rw[pU];exact c);have d:=fC k f;unfold gS;simp only[zI];rw[rQ h1,rQ d,rQ (by simpa using h1),rQ (by simpa using d)];simp[mkA]
theorem bt{m:Nat}{l:List Alt}{d:D}(hd:ye 1 (qJ l) d)(hl:l.length<=65536)(hm:m<=65536)(ad:∀a∈l,ye 2 (wW a.ts) a.d/\a.ts.length<=m)(g:Heap):zB prog 227 [d] g λr h'=>h'=g/\∃l',Fin 1 (qJ l') r/\l'.length<=l.length/\(∀a∈l',AltB m a)/\l'.map Alt.ts=yO (l.map Alt.ts):=by
 refine xU kr λd1=>xS (zB.freezeOr ?_);have N:=tf hd;refine xP λQ hQ=> ?_;refine z5 zHS ?_;simp only[f227,zA]
 repeat' first|simp only[go_sem, *]|apply bc<;>intro M
 refine zV (λi fr h=>fr 0=d/\fr 4=.int .i64 (i:Int)/\∃all,Own g h 1 (qJ all) (fr 3)/\all.length=i/\(∀a∈all,AltB m a)/\all.map Alt.ts=(l.take i).map λa=>wn a.ts) l.length ow ?_ ?_ ?_
 ·have J:∃all,Own g g 1 (qJ all) .nilsl/\all.length=0/\(∀a∈all,AltB m a)/\all.map Alt.ts=(l.take 0).map λa=>wn a.ts:=⟨[],Own.start (Ext.refl g) 1,rfl,(λa h=>by cases h),rfl⟩;clear hQ N;simp only[go_sem,zQ,zS,zF];exact J
 ·rintro i fr h S ec ew ⟨f0,f4,all,F,U,f,E⟩;obtain⟨o,T⟩:∃o,fr 3=o:=⟨_,rfl⟩;rw[T]at F;have a1:=ru hd S;have b8:=ad _ (zG S);have d6:=b8.2;have hj:=Lz (b:=[]) (e:=.nilsl) b8.1 (.inl ⟨rfl,rfl⟩) (by simp;omega);have cv:(l.take (i+1)).map (λa=>wn a.ts)=all.map Alt.ts++ [wn l[i].ts]:=by rw[zH S,yX,E];rfl
  rw[cv];clear cv E;generalize l[i]=a at *
  obtain⟨k1,k2,k3⟩:=yR b8.1;clear hQ ad hd
  repeat' first|simp only[go_sem, *]|apply bc<;>intro M
  refine(hj _).mono ?_;rintro r h2 ⟨V,b9⟩;rw[zp]at b9;subst V;have eb:=gR a.ts;generalize wn a.ts=ts at *
  have ch:=AltB.of (m:=m) b9 ow;have c3:=UE ch;obtain⟨q1,q2,q3⟩:=yR b9.isSl;clear hj
  repeat' first|simp only[go_sem, *]|apply bc<;>intro M
  refine F.appH (ys:=qJ [⟨ts,r⟩]) uc p7 uT ow (rE _) (by simp[qJ]) (by rw[ym,tt];unfold lim;simp[qJ];omega) (by rw[ym];unfold lim;simp[qJ];omega) λd' h' cw=> ?_;have d0:∃al,Own g h' 1 (qJ al) d'/\al.length=i+1/\(∀a∈al,AltB m a)/\al.map Alt.ts=all.map Alt.ts++ [ts]:=⟨all++ [⟨ts,r⟩],by
   have:qJ (all++ [⟨ts,r⟩])=qJ all++qJ [⟨ts,r⟩]:=by simp[qJ]
   rw[this];exact cw,by simp[U],(λx W=>by
   rcases yD.1 W with h1|h1
   ·exact f x h1
   ·cases zY.1 h1;exact ch),by simp⟩
  clear F cw f;exact au
 rintro fr G ec ⟨f0,f4,all,F,U,f,E⟩;rw[zb,show(l.map λa=>wn a.ts)=(l.map Alt.ts).map wn by rw[qm];rfl]at E;have b6:srt ui (lZ (all.map Alt.ts) all.length)=yO (l.map Alt.ts):=by rw[E,<-Tl,U,zI]
 clear E;obtain⟨o,T⟩:∃o,fr 3=o:=⟨_,rfl⟩;rw[T]at F;have hE:=F.1;have b5:=F.isSl;have dk:=tf b5;have dv:all.length<=l.length:=ow;clear F U
 repeat' first|simp only[go_sem, *]|apply bc<;>intro M
 refine zV (λi fr h=>fr 3=o/\fr 6=.int .i64 (i:Int)/\∃out,YA G h 1 (qJ out) (fr 5)/\out.length<=i/\(∀a∈out,AltB m a)/\out.map Alt.ts=srt ui (lZ (all.map Alt.ts) i)) all.length ow ?_ ?_ ?_
 ·have J:∃out,YA G G 1 (qJ out) .nilsl/\out.length<=0/\(∀a∈out,AltB m a)/\out.map Alt.ts=srt ui (lZ (all.map Alt.ts) 0):=⟨[],YA.start (Ext.refl G) 1,by simp,(λa h=>by cases h),by simp[lZ,srt]⟩;clear hQ N;simp only[go_sem,zQ,zS,zF,T];exact J
 ·clear T f0 f4 ec fr;rintro i fr h S ec ew ⟨T,f6,out,F,ba,p,v⟩;obtain⟨od,f5⟩:∃o,fr 5=o:=⟨_,rfl⟩;rw[f5]at F;obtain⟨z1,z2,z3⟩:=F.flat;have a1:=ru b5 S;have R:=f _ (zG S);have db:=R.len;have b7:=wT R.sl;have hB:=zJ5;clear hQ N hd ad;obtain⟨u,bk⟩:∃a,all[i]=a:=⟨_,rfl⟩;have Z:(all.map Alt.ts).getD i []=u.ts:=by rw[rQ (by simpa using S)];simp[bk]
  rw[bk]at a1 R db b7;have a8:lF (all.map Alt.ts) i 0=true:=rfl;have a9:lZ (all.map Alt.ts) (i+1)=if lF (all.map Alt.ts) i all.length=true then lZ (all.map Alt.ts) i++ [u.ts]else lZ (all.map Alt.ts) i:=by rw[lZ,Z,zI]
  rw[a9];clear a9
  repeat' first|simp only[go_sem, *]|apply bc<;>intro M
  refine zV (λk fr h'=>fr 3=o/\fr 6=.int .i64 (i:Int)/\fr 8=.int .i64 (k:Int)/\fr 7=.bool (lF (all.map Alt.ts) i k)/\fr 5=od/\h'=h) all.length ow ?_ ?_ ?_
  ·clear v;simp only[go_sem,zQ,zS,zF,a8,T,f6,f5]
  ·clear T f6 f5 fr;rintro k fr h ab c7 d3 ⟨T,f6,f8,f7,f5,V⟩;subst V;clear a8 v;have cg:(all.map Alt.ts).getD k []=all[k].ts:=by rw[rQ (by simpa using ab)];simp
   have cu:lF (all.map Alt.ts) i (k+1)=(lF (all.map Alt.ts) i k&& !((!((k:Int)==(i:Int)))&&tj u.ts all[k].ts&&(decide ((u.ts.length:Int)>(all[k].ts.length:Int))||decide ((k:Int)<(i:Int))))):=by rw[Qs,YE,Z,cg]
   rw[cu];clear cu cg Z;have a2:=ru b5 ab;have b3:=f _ (zG ab);have d4:=b3.len;have d5:=wT b3.sl;have a7:=QQ R.sl b3.sl ow ow;generalize all[k]=ak at *
   generalize lF (all.map Alt.ts) i k=K at *
   generalize tj u.ts ak.ts=C at *
   clear f p F ba
   repeat' first|simp only[go_sem, *]|apply bc<;>intro M
   refine zd kr ?_;cases e1:((k:Int)==(i:Int))with
   |true=>
    repeat' first|simp only[go_sem, *]|apply bc<;>intro M|(refine zB.mono (a7 _) ?_;rintro r h ⟨V,rfl⟩)
   |false=>
   cases C with
   |false=>
    repeat' first|simp only[go_sem, *]|apply bc<;>intro M|(refine zB.mono (a7 _) ?_;rintro r h ⟨V,rfl⟩)
   |true=>
   cases e2:decide ((u.ts.length:Int)>(ak.ts.length:Int))with
   |true=>
    repeat' first|simp only[go_sem, *]|apply bc<;>intro M|(refine zB.mono (a7 _) ?_;rintro r h ⟨V,rfl⟩)
   |false=>
   cases e3:decide ((k:Int)<(i:Int))with
   |_=>
    repeat' first|simp only[go_sem, *]|apply bc<;>intro M|(refine zB.mono (a7 _) ?_;rintro r h ⟨V,rfl⟩)
  rintro fr h2 c7 ⟨T,f6,f8,f7,f5,V⟩;subst V;clear a8;cases a6:lF (all.map Alt.ts) i all.length with
  |false=>
   rw[a6]at f7;rw[iq (by decide)];have J:∃w,YA G h2 1 (qJ w) od/\w.length<=i+1/\(∀a∈w,AltB m a)/\w.map Alt.ts=srt ui (lZ (all.map Alt.ts) i):=⟨out,F,by omega,p,v⟩;clear f p F ba v a6 Z
   repeat' first|simp only[go_sem, *]|apply bc<;>intro M
  |true=>
  rw[a6]at f7;rw[ip rfl];clear a6 Z;have c3:=UE R h2.next h2;obtain⟨q1,q2,q3⟩:=yR R.sl;obtain⟨d',H,a5,c0,ds⟩:=F.app (P:=prog) (ys:=qJ [u]) (tk:=.full) uc p7 uT ow (λcs=>RV underlying108) (rE _) (rE _) (by simp[qJ]) (by rw[ym,tt];unfold lim;simp[qJ];omega) (by rw[ym];unfold lim;simp[qJ];omega);have U:qJ [u]= [[u.d]]:=rfl;have bs:qJ out++qJ [u]=qJ (out++ [u]):=by simp[qJ]
  rw[bs]at c0;rw[U]at a5 ds;have I:∀a∈out++ [u],AltB m a:=λx W=>by
   rcases yD.1 W with h1|h1
   ·exact p x h1
   ·cases zY.1 h1;exact R
  have d2:(out++ [u]).length<=i+1:=by simp;omega
  have c4:0<(out++ [u]).length:=by simp
  have b1:∃A B:List Alt,A++B=out/\out++ [u]=A++u::B/\A.length=(out++ [u]).length-1-0/\∀b∈B,ui u.ts b.ts<0:=⟨out,[],by simp,rfl,by simp,λb h=>by cases h⟩;have di:lZ (all.map Alt.ts) i=lZ (all.map Alt.ts) i:=rfl;generalize lZ (all.map Alt.ts) i=KT at *
  clear di;generalize out++ [u]=c at *
  obtain⟨c8,b4⟩:=c0;rcases b4 with⟨_,e⟩ | ⟨id,rfl,O,hid,bx,_⟩
  ·exact absurd c4 (by rw[show c.length=(qJ c).length from(ym _).symm,e];simp)
  rw[ym]at a5;have ca:IntKind.i64.wrap ((c.length:Int)-1)=((c.length-1:Nat):Int):=by rw[qE ow ow];omega
  have dr:=λh=>lz (P:=prog) (t:=30) (sz:=1) (id:=id) (off:=0) (len:=c.length) (h:=h) underlying30;clear f p F ba bs
  repeat' first|simp only[go_sem, *]|apply bc<;>intro M
  refine qx (λj fr h=>fr 3=o/\fr 6=.int .i64 (i:Int)/\fr 9=.int .i64 ((c.length-1-j:Nat):Int)/\fr 5=.rs id 1 0 c.length/\∃xs,xs.length=c.length/\h=H.set id (.row (qJ xs).flatten)/\(∀a∈xs,AltB m a)/\∃A B:List Alt,A++B=out/\xs=A++u::B/\A.length=c.length-1-j/\∀b∈B,ui u.ts b.ts<0) (c.length-1) ?_ ?_
  ·have J:∃xs:List Alt,xs.length=c.length/\H=H.set id (.row (qJ xs).flatten)/\(∀a∈xs,AltB m a)/\∃A B:List Alt,A++B=out/\xs=A++u::B/\A.length=c.length-1-0/\∀b∈B,ui u.ts b.ts<0:=⟨c,rfl,(nh O).symm,I,b1⟩;clear I ca dr b1 v;simp only[go_sem,zQ,zS,zF,T,f6];exact⟨by rw[tv],J⟩
  clear b1;rintro j fr h hj ⟨T,f6,f9,f5,xs,cb,rfl,Y,A,B,a0,X,a3,a4⟩;have ag:(H.set id (.row (qJ xs).flatten)).at' id=some (.row (qJ xs).flatten):=zi _ _ _;have s:(∀x∈A.getLast?,¬ui u.ts x.ts<0)->∃w,YA G (H.set id (.row (qJ xs).flatten)) 1 (qJ w) (.rs id 1 0 c.length)/\w.length<=i+1/\(∀a∈w,AltB m a)/\w.map Alt.ts=srt ui (KT++ [u.ts]):=λb7=>⟨xs,⟨c8.set hid _,.inr ⟨id,by rw[ym,cb],ag,hid,by rw[qS];exact bx,λe=>by
   have:(qJ xs).length=0:=by rw[e];rfl
   rw[ym]at this;omega⟩⟩,by omega,Y,by
   rw[X,yX,qL];refine Hh pF hZ (by rw[<-v,<-a0,yX]) (λb hb=> ?_) (λx W=> ?_)
   ·obtain⟨z,hz,rfl⟩:=zT.1 hb;exact a4 z hz
   ·rw[List.getLast?_map]at W;obtain⟨z,hz,rfl⟩:=zZ.1 W;exact b7 z hz⟩
  obtain⟨k,hk⟩:∃k,c.length-1-j=k:=⟨_,rfl⟩;rw[hk]at f9;cases k with
  |zero=>
   have h0:decide (((0:Nat):Int)>0)=false:=rfl;have cc:A= []:=yv.1 (by rw[a3,hk]);have s:=s (by rw[cc];intro x W;cases W);clear I Y ca O a5 cc a0 X a4 v
   repeat' first|simp only[go_sem, *]|apply bc<;>intro M
   refine zd kr ?_
   repeat' first|simp only[go_sem, *]|apply bc<;>intro M
  |succ k=>
   have h0:decide (((k+1:Nat):Int)>0)=true:=zN ow;have ed:IntKind.i64.wrap (((k+1:Nat):Int)-1)=(k:Int):=by rw[qE ow ow];omega
   have cp:k+1<xs.length:=ow;have c1:(qJ xs).flatten[k+1]? =some xs[k+1].d:=by rw[ov];simp[cp]
   have c2:(qJ xs).flatten[k]? =some xs[k].d:=by rw[ov];simp[show k<xs.length by omega]
   have bb:=Y _ (zG cp);have bd:=Y _ (zG (show k<xs.length by omega));have i1:yP prog 30 (.rs id 1 0 c.length) (.int .i64 ((k+1:Nat):Int))=some (.ptr id (k+1)):=by
    have:=wE (P:=prog) (sz:=1) (id:=id) uc uT (k:=.i64) (show k+1<c.length by omega)
    rwa [uz]at this
   have i2:yP prog 30 (.rs id 1 0 c.length) (.int .i64 (k:Int))=some (.ptr id k):=by
    have:=wE (P:=prog) (sz:=1) (id:=id) uc uT (k:=.i64) (show k<c.length by omega)
    rwa [uz]at this
   have cl:=MQ bb.sl bd.sl (by have:=bb.len;omega) (by have:=bd.len;omega);have c9:(qJ xs).flatten=xs.map Alt.d:=ov xs;have c6:((qJ xs).flatten.set (k+1) xs[k].d).set k xs[k+1].d=(qJ ((xs.set (k+1) xs[k]).set k xs[k+1])).flatten:=by rw[ov,ov,mr,mr]
   have c5:∀a∈(xs.set (k+1) xs[k]).set k xs[k+1],AltB m a:=λa ha=>by
    rcases lR ha with h1|rfl
    ·rcases lR h1 with h2|rfl
     ·exact Y a h2
     ·exact bd
    ·exact bb
   obtain⟨A',z,rfl⟩:∃A' z,A=A'++ [z]:=by
    rcases jx A with rfl| ⟨A',z,rfl⟩
    ·simp at a3;omega
    ·exact⟨A',z,by simp⟩
   have L:A'.length=k:=by simp at a3;omega
   have e1:xs[k+1]=u:=by simp[X,<-L]
   have e2:xs[k]=z:=by simp[X,<-L]
   have dd:j<c.length-1:=ow;have y:ui xs[k+1].ts xs[k].ts<0->∀hh,hh=H.set id (.row (((qJ xs).flatten.set (k+1) xs[k].d).set k xs[k+1].d))->(j<c.length-1/\∃ys:List Alt,ys.length=c.length/\hh=H.set id (.row (qJ ys).flatten)/\(∀a∈ys,AltB m a)/\∃A B:List Alt,A++B=out/\ys=A++u::B/\A.length=k/\∀b∈B,ui u.ts b.ts<0):=λb0 hh e=>⟨dd,_,by rw[rK,rK];exact cb,by rw[e,c6],c5,A',z::B,by rw[<-a0];simp,by rw[e1,e2,X,<-L];exact Hi A' B u z,L,λb hb=>by
    rcases zt.1 hb with rfl|q
    ·rw[e1,e2]at b0;exact b0
    ·exact a4 b q⟩
   have a8:k<xs.length:=ow;have a9:c.length-1- (j+1)=k:=ow;obtain⟨u1,u2,u3⟩:=yR bb.sl;obtain⟨v1,v2,v3⟩:=yR bd.sl;have cm:(qJ xs).flatten.length=c.length:=by rw[ov,zI,cb]
   have dt:qP prog 108 (.ptr id (k+1)) xs[k].d (H.set id (.row (qJ xs).flatten))=some (H.set id (.row ((qJ xs).flatten.set (k+1) xs[k].d))):=by
    rw[qO ag uT ow v1 v3,jP]
   have du:qP prog 108 (.ptr id k) xs[k+1].d (H.set id (.row ((qJ xs).flatten.set (k+1) xs[k].d)))=some (H.set id (.row (((qJ xs).flatten.set (k+1) xs[k].d).set k xs[k+1].d))):=by
    rw[qO (zi _ _ _) uT (by rw[rK];omega) u1 u3,jP]
   have s:=λ(q:¬ui xs[k+1].ts xs[k].ts<0)=>s (by rw[e1,e2]at q;intro x W;rw[List.getLast?_concat]at W;cases W;exact q);generalize xs[k+1]=x1 at *
   generalize xs[k]=x2 at *
   clear I Y ca O a5 c6 c5 c9 cm e1 e2 a0 X a4 v a3 L;generalize(qJ xs).flatten=row at *
   repeat' first|simp only[go_sem, *]|apply bc<;>intro M
   refine zd kr ?_
   repeat' first|simp only[go_sem, *]|apply bc<;>intro M
   generalize ui x1.ts x2.ts=n at *
   refine(cl _).mono ?_;rintro r h3 ⟨V,rfl⟩;subst V;cases hn:decide (n<0)with
   |false=>
    have s:=s (zq hn);clear y dt du a9
    repeat' first|simp only[go_sem, *]|apply bc<;>intro M
   |true=>
    have y:=y (zg hn);clear s cl
    repeat' first|simp only[go_sem, *]|apply bc<;>intro M
    have y:=y _ rfl;refine zd kr ?_;exact au
 ·rintro fr h ec ⟨T,f6,out,F,ba,p,v⟩;rw[b6]at v;obtain⟨od,f5⟩:∃o,fr 5=o:=⟨_,rfl⟩;rw[f5]at F;obtain⟨cf,b4⟩:=F;rcases b4 with⟨rfl,e⟩ | ⟨id,rfl,O,hid,bx,ea⟩
  ·have V:=hQ .nilsl h (.inl ⟨hE.trans cf,by simp[wD,below],[],.inl ⟨rfl,rfl⟩,by simp,(λa h=>by cases h),by rw[<-v,show out= []from qU.1 e]⟩)
   clear hQ N hd ad f p v b6;exact au
  ·have da:frz id (qJ out).flatten (.rs id 1 0 (qJ out).length)=.sl 1 (qJ out) .no:=aB (rest:=[]) (rE _) rfl (by simp);have J:=qg (sz:=1) (xs:=qJ out) (λx W=>by
    obtain⟨a,ha,rfl⟩:=zT.1 W;exact(p a ha).pl) .no
   have V:=hQ (.rs id 1 0 (qJ out).length) h (.inr ⟨id,_,O,by
    rw[da,J.1];exact⟨(hE.trans cf).del (by have:=hE.1;omega),qw (yg _) _ J.2,out,.inr rfl,by omega,p,v⟩⟩)
   clear hQ N hd ad f p v b6;exact au
theorem TM{m:Nat}{a b:List Alt}{d e:D}(C:ye 1 (qJ a) d)(E:ye 1 (qJ b) e)(K:a.length+b.length<=65536)(G:m<=65536)(o:∀x∈a,ye 2 (wW x.ts) x.d/\x.ts.length<=m)(A:∀x∈b,ye 2 (wW x.ts) x.d/\x.ts.length<=m)(g:Heap):zB prog 228 [d,e] g λr h'=>h'=g/\∃j,Fin 1 (qJ j) r/\j.length<=a.length+b.length/\(∀x∈j,AltB m x)/\j.map Alt.ts=yO ((a++b).map Alt.ts):=by
 refine xU kr λv=> ?_;refine xP λQ t=> ?_;have c:∀h l d,Own g h 1 (qJ l) d->l.length=a.length+b.length->l=a++b->(∀x∈l,ye 2 (wW x.ts) x.d/\x.ts.length<=m)->zB prog 227 [d] h λr h'=>Q r h':=λh l d u F s k=>(bt (m:=m) u.isSl ow G k h).mono λr h' ⟨H,j,w,M,y,I⟩=>by
  subst H;refine t _ _ ⟨u.1,?_,j,w,by omega,y,by rw[<-s];exact I⟩;have:=kN w (λx k=>by
   obtain⟨a,o,rfl⟩:=zT.1 k;exact(y a o).pl)
  have n:=this.2.1;simp only[qZ,zS]at n;exact qw (yg _) _ n
 clear t;have h0:=Own.start (Ext.refl g) 1;refine z5 zHT ?_;simp only[f228,zA]
 repeat' first|simp only[go_sem, *]|apply bc<;>intro B
 refine h0.appI (ys:=qJ a) uc p7 uT ow (rE _) C (by rw[ym,tt];unfold lim;simp;omega) (by rw[ym];unfold lim;simp;omega) λJ h1 f=> ?_;rw[yT]at f
 repeat' first|simp only[go_sem, *]|apply bc<;>intro B
 refine f.appI (ys:=qJ b) uc p7 uT ow (rE _) E (by rw[ym,ym,tt];unfold lim;omega) (by rw[ym,ym];unfold lim;omega) λz n i=> ?_;have p:qJ a++qJ b=qJ (a++b):=by simp[qJ]
 rw[p]at i;have L:=c n (a++b) z i (by simp) rfl (λx k=>by
  rcases yD.1 k with q|q
  ·exact o x q
  ·exact A x q)
 clear c f i;exact au
theorem Da{m n:Nat}{a b:List Alt}{d e:D}(R:ye 1 (qJ a) d)(he:ye 1 (qJ b) e)(T:a.length<=64)(U:b.length<=64)(hm:m+n<=65536)(L:∀x∈a,AltB m x)(hb:∀x∈b,AltB n x)(g:Heap):zB prog 229 [d,e] g λr h'=>h'=g/\∃E,Fin 1 (qJ E) r/\E.length<=a.length*b.length/\(∀x∈E,AltB (m+n) x)/\E.map Alt.ts=yO (pZ (a.map Alt.ts) (b.map Alt.ts)):=by
 have P:a.length*b.length<=4096:=za (dD T U) ow;refine xU kr λad=> ?_;refine xP λQ Z=> ?_;have q:∀h l d,Own g h 1 (qJ l) d->l.length=a.length*b.length->l.map Alt.ts=sT a b a.length 0->(∀x∈l,AltB (m+n) x)->zB prog 227 [d] h λr h'=>Q r h':=λh l d p a4 S J=>(bt (m:=m+n) p.isSl ow hm (λx h=>(J x h).io) h).mono λr h' ⟨q1,E,X,q3,q4,q5⟩=>by
  subst q1;refine Z _ _ ⟨p.1,?_,E,X,by omega,q4,by rw[q5,S,Qh,UB]⟩;have:=kN X (λx J=>by
   obtain⟨a,L,rfl⟩:=zT.1 J;exact(q4 a L).pl)
  have O:=this.2.1;simp only[qZ,zS]at O;exact qw (yg _) _ O
 have V:=tf R;have W:=tf he;clear Z;refine z5 zHU ?_;simp only[f229,zA]
 repeat' first|simp only[go_sem, *]|apply bc<;>intro M
 refine zV (λi fr h=>fr 0=d/\fr 1=e/\fr 6=.int .i64 (i:Int)/\∃all,Own g h 1 (qJ all) (fr 5)/\all.length=i*b.length/\(∀x∈all,AltB (m+n) x)/\all.map Alt.ts=sT a b i 0) a.length ow ?_ ?_ ?_
 ·have s:∃all,Own g g 1 (qJ all) .nilsl/\all.length=0*b.length/\(∀x∈all,AltB (m+n) x)/\all.map Alt.ts=sT a b 0 0:=⟨[],Own.start (Ext.refl g) 1,by simp,(λa h=>by cases h),by simp[sT]⟩;clear q;simp only[go_sem,zQ,zS,zF];exact s
 ·rintro i fr h t ec ew ⟨A,B,C,all,p,j,c,f⟩;obtain⟨o,v⟩:∃o,fr 5=o:=⟨_,rfl⟩;rw[v]at p;have a1:=ru R t;have z:=L _ (zG t);have a3:i*b.length+b.length<=4096:=by rw[<-qf];exact za (yW _ t) P
  have w:∀k (hk:k<b.length),sT a b i (k+1)=sT a b i k++ [wn (a[i].ts++b[k].ts)]:=λk hk=>MZ t hk;have G:sT a b (i+1) 0=sT a b i b.length:=KR a b t;rw[G];clear G;generalize a[i]=Y at *
  obtain⟨k1,k2,k3⟩:=yR z.sl;have ab:=z.len;have s:∃all,Own g h 1 (qJ all) o/\all.length=i*b.length+0/\(∀x∈all,AltB (m+n) x)/\all.map Alt.ts=sT a b i 0:=⟨all,p,j,c,f⟩;clear q L R p j c f
  repeat' first|simp only[go_sem, *]|apply bc<;>intro M
  refine zV (λk fr h=>fr 0=d/\fr 1=e/\fr 6=.int .i64 (i:Int)/\fr 7=.int .i64 (k:Int)/\∃all,Own g h 1 (qJ all) (fr 5)/\all.length=i*b.length+k/\(∀x∈all,AltB (m+n) x)/\all.map Alt.ts=sT a b i k) b.length ow ?_ ?_ ?_
  ·clear w;simp only[go_sem,zQ,zS,zF,A,B,v,C];exact s
  ·clear A B v C s fr h;rintro k fr h u N ak ⟨A,B,C,f7,all,p,j,c,f⟩;rw[w k u,<-f];clear w f;obtain⟨o,v⟩:∃o,fr 5=o:=⟨_,rfl⟩;rw[v]at p;have a2:=ru he u;have F:=hb _ (zG u);have a0:=F.len;have hj:=Lz z.sl F.sl ow;generalize b[k]=bk at *
   repeat' first|simp only[go_sem, *]|apply bc<;>intro M
   refine zd kr ?_
   repeat' first|simp only[go_sem, *]|apply bc<;>intro M
   refine(hj _).mono ?_;rintro r O ⟨hq,I⟩;subst hq;have a5:(wn (Y.ts++bk.ts)).length<=m+n:=za (gR _) (by rw[zM];omega);generalize wn (Y.ts++bk.ts)=K at *
   have y:=AltB.of (m:=m+n) I ow;have ag:=UE y;obtain⟨q1,X,q3⟩:=yR I.isSl;clear hj
   repeat' first|simp only[go_sem, *]|apply bc<;>intro M
   refine p.appH (ys:=qJ [⟨K,r⟩]) uc p7 uT ow (rE _) (by simp[qJ]) (by rw[ym,tt];unfold lim;simp[qJ];omega) (by rw[ym];unfold lim;simp[qJ];omega) λd' h' H=> ?_;have q:∃al,Own g h' 1 (qJ al) d'/\al.length=i*b.length+(k+1)/\(∀a∈al,AltB (m+n) a)/\al.map Alt.ts=all.map Alt.ts++ [K]:=⟨all++ [⟨K,r⟩],by
    have:qJ (all++ [⟨K,r⟩])=qJ all++qJ [⟨K,r⟩]:=by simp[qJ]
    rw[this];exact H,by simp;omega,(λx J=>by
    rcases yD.1 J with h1|h1
    ·exact c x h1
    ·cases zY.1 h1;exact y),by simp⟩
   clear p H c j;exact au
  ·clear A B v C s fr h;rintro fr h N ⟨A,B,C,f7,all,p,j,c,f⟩;clear w;obtain⟨o,v⟩:∃o,fr 5=o:=⟨_,rfl⟩;rw[v]at p;have s:∃all,Own g h 1 (qJ all) o/\all.length=(i+1)*b.length/\(∀x∈all,AltB (m+n) x)/\all.map Alt.ts=sT a b i b.length:=⟨all,p,by rw[qf];exact j,c,f⟩;clear p j c f;exact au
 ·rintro fr h ec ⟨A,B,C,all,p,j,c,f⟩;obtain⟨o,v⟩:∃o,fr 5=o:=⟨_,rfl⟩;rw[v]at p;have hq:=q h all o p j f c;clear q p j c f;exact au
def zEu(k:Int)(i n:Nat):Prop:=n<=64*i/\(k=2->n<=64)
def ZS(m:Nat)(o:Option (List (List Trm)))(r:D):Prop:=∃q b,r=.tuple [q,.bool b]/\∃l,Fin 1 (qJ l) q/\(∀a∈l,AltB m a)/\match o with
 |some L=>b=true/\l.map Alt.ts=L/\l.length<=64
 |none=>b=false
theorem YD{m:Nat}{l:List Alt}(h:∀a∈l,AltB m a):∀x∈qJ l,sH x:=λx c=>by
 obtain⟨a,b,rfl⟩:=zT.1 c;exact(h a b).pl
theorem ZS.pl{m:Nat}{o:Option (List (List Trm))}{r:D}(h:ZS m o r)(n:Nat):wD r=r/\below n r:=by
 obtain⟨q,b,rfl,l,hf,c,_⟩:=h;obtain⟨h1,a,h3⟩:=kN hf (YD c);simp only[qZ,zS]at a;simp only[wU,rJ,zS]at h3;exact⟨by simp[wD,wU,h3],by simp only[below,qZ,zS];exact qw (yg _) _ a⟩
theorem ZS.none(m:Nat):ZS m .none (.tuple [.nilsl,.bool false]):=⟨.nilsl,false,rfl,[],.inl ⟨rfl,rfl⟩,(λa h=>by cases h),rfl⟩
theorem BU{l:List (List Trm)} :(decide ((l.length:Int)<=64)=true/\szd l=some l)\/(decide ((l.length:Int)<=64)=false/\szd l=.none):=by grind [szd]
theorem ZS.szd{m:Nat}{l:List Alt}{q:D}{L:List (List Trm)}(hf:Fin 1 (qJ l) q)(e:∀a∈l,AltB m a)(c:l.map Alt.ts=L):ZS m (szd L) (.tuple [q,.bool (decide ((l.length:Int)<=64))]):=by
 have d:l.length=L.length:=by rw[<-c,zI]
 refine⟨q,_,rfl,l,hf,e,?_⟩;rcases BU (l:=L)with⟨h1,b⟩ | ⟨h1,b⟩
 ·rw[b];exact⟨by rw[d];exact h1,c,by have:=zg h1;omega⟩
 ·rw[b];show _=false;rw[d];exact h1
theorem Hz(s x:List UInt8)(nid:Nat)(h:Heap):yB prog false nid 108 1 [(0,.agg [.str s,.str x])] h=some (.sl 2 [[.str s,.str x]] .full,h):=wP uO so uo rfl rfl ow ow rfl rfl
theorem GH{l:List Ex}{i:Nat}(a:i<l.length):yt (l.take (i+1))=yt (l.take i)+l[i].size:=by rw[zH a,fU]
theorem UQ(l:List Ex)(i:Nat):yt (l.take i)<=yt l:=by
 have a:=gh (l.take i) (l.drop i);rw[yp]at a;omega
def MnI(c:Cat)(k:Int)(R:Option (List (List Trm)))(rest:List Ex)(i:Nat)(M:List (List Trm)):Prop:=
 ∃P,oK c k rest (decide (i=0)) P=R/\M=yO P/\(k=2->M=P)
theorem MnI.none{c:Cat}{k:Int}{R:Option (List (List Trm))}{rest:List Ex}{i:Nat}{M:List (List Trm)}{y:Ex}(h:MnI c k R (y::rest) i M)(a:rB c y=.none):R=.none:=by grind [oK,MnI,rB]
theorem MnI.or{c:Cat}{R:Option (List (List Trm))}{rest:List Ex}{i:Nat}{M L:List (List Trm)}{y:Ex}(h:MnI c 3 R (y::rest) i M)(a:rB c y=some L):MnI c 3 R rest (i+1) (yO (M++L)):=by grind [oK,bB,MnI,rB,yO]
theorem MnI.and0{c:Cat}{R:Option (List (List Trm))}{rest:List Ex}{i:Nat}{M L:List (List Trm)}{y:Ex}(h:MnI c 2 R (y::rest) i M)(a:i=0)(d:rB c y=some L)(b:L.length<=64):MnI c 2 R rest (i+1) L:=by grind [oK,T2,MnI,rB]
theorem MnI.andN{c:Cat}{R:Option (List (List Trm))}{rest:List Ex}{i:Nat}{M L:List (List Trm)}{y:Ex}(h:MnI c 2 R (y::rest) i M)(a:i≠0)(d:rB c y=some L)(b:(yO (pZ M L)).length>64):R=.none:=by grind [oK,szd,MnI,rB,yO,pZ]
theorem MnI.andS{c:Cat}{R:Option (List (List Trm))}{rest:List Ex}{i:Nat}{M L:List (List Trm)}{y:Ex}(h:MnI c 2 R (y::rest) i M)(a:i≠0)(d:rB c y=some L)(b:(yO (pZ M L)).length<=64):MnI c 2 R rest (i+1) (yO (pZ M L)):=by grind [oK,szd,yO,pZ,jK,MnI,rB]
theorem MnI.fin{c:Cat}{k:Int}{R:Option (List (List Trm))}{i:Nat}{M:List (List Trm)}(h:MnI c k R [] i M)(a:k=2\/k=3):∃P,R=some P/\M=yO P:=by grind [oK,MnI,yO]
theorem Df{c:Cat}{D0:D}(J:uM c D0)(hs:c.Sm)(h0:qz c=0):∀(n:Nat){e:Ex},e.size<=n->e.Ok->e.Fit c->e.size<=120->∀g:Heap,zB prog 160 [D0,.agg e.cells] g λr h'=>h'=g/\ZS e.size (rB c e) r:=by
 intro n
 induction n with
 |zero=>intro e h;cases e;simp only[Ex.size]at h;omega
 |succ n ih=>
 intro e hn cf bb cw g;refine xU kr λc4=>xS ?_;refine xP λQ hQ=> ?_;have O:=Pr J hs;have c6:=zAF h0;obtain⟨ca,cb,ce,cp,rfl,_,_,_,_⟩:=J;obtain⟨k,nm,x,l,d⟩:=e;have hR:(Ex.mk k nm x l d).size=yt l+1:=by simp only[Ex.size]
 rw[hR]at hQ hn cw;have ab:=Zm bb;have a6:∀y∈l,y.Fit c:=λy hy=>bb.kid hy;obtain⟨RM,j⟩:∃RM,rB c (.mk k nm x l d)=RM:=⟨_,rfl⟩;rw[j]at hQ;rw[rB]at j;simp only[Ex.Ok]at cf;obtain⟨hd,hl,_,_,b5⟩:=cf;clear bb;have B:∀r h,Ext g h->ZS (yt l+1) RM r->Q r h:=λr h hE hr=>hQ _ _ ⟨hE,by rw[(hr.pl 0).1];exact(hr.pl _).2,by rw[(hr.pl 0).1];exact hr⟩;have f:=λh hE (hn:RM=none)=>B _ h hE (by rw[hn];exact ZS.none _);have c3:=pR hd;have di:∀a b:List UInt8,wO prog 112 [(0,.str a),(1,.str b)]=some (.agg [.str a,.str b]):=λa b=>by simp[wO,oM,so,tp,uG,D.notTuple,D.cells]
 have c5:∀a:List UInt8,wO prog 112 [(0,.str a)]=some (.agg [.str a,.str []]):=λa=>by simp[wO,oM,so,tp,uG,D.notTuple,D.cells]
 have da:=Hz;have db:=λs x nid h=>dz (.sl 2 [[.str s,.str x]] .full) nid h rfl rfl rfl;cases k0:(k==0)with
 |true=>
  rw[k0,ip rfl]at j;have F:Q (.tuple [.sl 1 [[.sl 2 [[.str nm,.str x]] .full]] .full,.bool true]) g:=hQ _ _ ⟨Ext.refl g,by simp[wD,wU,oB,below,qZ,lA],by
   refine⟨.sl 1 (qJ [mkA [⟨nm,x⟩]]) .no,true,by simp[wD,wU,oB,qJ,mkA,wW,Trm.cells],_,.inr rfl,λa ha=> ?_,?_⟩
   ·cases zY.1 ha;exact⟨.inr ⟨_,rfl⟩,by simp[mkA],XG _⟩
   ·rw[<-j];exact⟨rfl,rfl,by simp⟩⟩
  clear ih O hQ B f j ab a6;refine z5 Cx ?_;simp only[f160,zA];simp only[Ex.cells,Ex.kind,Ex.name,Ex.exc,Ex.d]
  repeat' first|simp only[go_sem, *]|apply bc<;>intro J
 |false=>
 rw[k0,iq (by decide)]at j;cases k1:(k==1)with
 |true=>
  rw[k1,ip rfl]at j;have O:=O nm;obtain⟨y,b4⟩:∃y,sE c nm=some y:=by
   rcases ab with⟨_,_,_,q⟩ | ⟨q,_⟩
   ·exact q
   ·have:k=1:=by simpa using k1
    omega
  rw[b4]at O j;have dk:=GV h0 (cX b4);clear ih hQ f ab a6;refine z5 Cx ?_;simp only[f160,zA];simp only[Ex.cells,Ex.kind,Ex.name,Ex.exc,Ex.d]
  repeat' first|simp only[go_sem, *]|apply bc<;>intro J
  refine(O _).mono ?_;rintro r h ⟨F,X,q,rfl,cg,bx⟩;subst F;have ch:=cg.isSl;have dd:X.length<=32:=by rw[bx.length_eq];omega
  have hM:yO ((pz c y).map λs=>[⟨s,[]⟩])=yO (X.map λs=>[⟨s,[]⟩]):=bC (bx.symm.map _);have a0:RM=szd (yO (X.map λs=>[⟨s,[]⟩])):=by rw[<-hM];exact j.symm
  have c9:=wd ch;clear O hM j bx cg
  repeat' first|simp only[go_sem, *]|apply bc<;>intro J
  refine zV (λi fr h'=>fr 7=q/\fr 9=.int .i64 (i:Int)/\∃all,Own h h' 1 (qJ all) (fr 6)/\all.length=i/\(∀a∈all,ye 2 (wW a.ts) a.d/\a.ts.length<=yt l+1)/\all.map Alt.ts=(X.take i).map λs=>[⟨s,[]⟩]) X.length ow ?_ ?_ ?_
  ·have W:∃all,Own h h 1 (qJ all) .nilsl/\all.length=0/\(∀a∈all,ye 2 (wW a.ts) a.d/\a.ts.length<=yt l+1)/\all.map Alt.ts=(X.take 0).map λs=>[⟨s,[]⟩]:=⟨[],Own.start (Ext.refl h) 1,rfl,(λa h=>by cases h),rfl⟩;clear B a0;simp only[go_sem,zQ,zS,zF];exact W
  ·rintro i fr h2 R ec ew ⟨f7,f9,all,w,Z,I,V⟩;obtain⟨o,f6⟩:∃o,fr 6=o:=⟨_,rfl⟩;rw[f6]at w;have a1:=t9 ch R;have a9:((X.take (i+1)).map λs=>([⟨s,[]⟩]:List Trm))=all.map Alt.ts++ [[⟨X[i],[]⟩]]:=by rw[zH R,yX,V];rfl
   rw[a9];clear V a9 a0;generalize X[i]=s at *
   clear B
   repeat' first|simp only[go_sem, *]|apply bc<;>intro J
   refine w.appH (ys:=qJ [⟨[⟨s,[]⟩],.sl 2 [[.str s,.str []]] .full⟩]) uc p7 uT ow (rE _) (by simp[qJ]) (by rw[ym,tt];unfold lim;simp[qJ];omega) (by rw[ym];unfold lim;simp[qJ];omega) λd' h' b9=> ?_;have c2:∃al,Own h h' 1 (qJ al) d'/\al.length=i+1/\(∀a∈al,ye 2 (wW a.ts) a.d/\a.ts.length<=yt l+1)/\al.map Alt.ts=all.map Alt.ts++ [[⟨s,[]⟩]]:=⟨all++ [⟨[⟨s,[]⟩],.sl 2 [[.str s,.str []]] .full⟩],by
    have:∀z:Alt,qJ (all++ [z])=qJ all++qJ [z]:=λz=>by simp[qJ]
    rw[this];exact b9,by simp[Z],(λx hx=>by
    rcases yD.1 hx with h1|h1
    ·exact I x h1
    ·cases zY.1 h1;exact⟨.inr ⟨_,rfl⟩,by simp⟩),by simp⟩
   clear w b9 I Z;exact au
  ·rintro fr h2 ec ⟨f7,f9,all,w,Z,I,V⟩;rw[zb]at V;obtain⟨o,f6⟩:∃o,fr 6=o:=⟨_,rfl⟩;rw[f6]at w;have bk:=bt (m:=yt l+1) w.isSl ow ow I;have b7:=tf w.isSl;rw[Z]at b7;have hE:=w.1;have c1:all.length<=X.length:=ow;rw[V]at bk;have cm:all.length<=32:=ow;clear w I Z V
   repeat' first|simp only[go_sem, *]|apply bc<;>intro J
   refine(bk _).mono ?_;rintro r h3 ⟨F,l',hf,c8,b3,b8⟩;subst F;have cu:l'.length<=32:=ow;have bs:=ZS.szd hf b3 b8;rw[<-a0,show decide ((l'.length:Int)<=64)=decide ((X.length:Int)<=64) by rw[zN (show(l'.length:Int)<=64 by omega),zN (show(X.length:Int)<=64 by omega)]]at bs;have F:=B (.tuple [r,.bool (decide ((X.length:Int)<=64))]) h3 hE bs;clear bk B hf b3 b8 bs a0
   repeat' first|simp only[go_sem, *]|apply bc<;>intro J
 |false=>
 clear O;rw[k1,iq (by decide)]at j;have hk:k=2\/k=3:=by
  have h0:k≠0:=by simpa using k0
  have h1:k≠1:=by simpa using k1
  rcases ab with⟨q,_⟩ | ⟨q,_⟩
  ·omega
  ·exact q
 have cu:l.length<=120:=by
  have:∀l:List Ex,l.length<=yt l:=λl=>by
   induction l with
   |nil=>simp
   |cons e l ih=>simp only[yt,zm];cases e;simp only[Ex.size];omega
  have:=this l;omega
 have T:∀i (hi:i<l.length) g,zB prog 160 [.agg [ca,cb,ce,cp],.agg l[i].cells] g λr h'=>h'=g/\ZS l[i].size (rB c l[i]) r:=λi hi=>by
  have hm:=zG hi;have:=uP hm;exact ih ow (pS b5 _ hm) (a6 _ hm) ow
 obtain⟨RK,Y⟩:∃RK,oK c k l true []=RK:=⟨_,rfl⟩;rw[Y]at j;have b1:RK=none->RM=none:=λq=>by rw[<-j,q]
 have a2:∀P,RK=some P->RM=szd (yO P):=λP q=>by rw[<-j,q]
 have f:=λh hE q=>f h hE (b1 q);clear ih hQ a6 b5 j b1 ab;refine z5 Cx ?_;simp only[f160,zA];simp only[Ex.cells,Ex.kind,Ex.name,Ex.exc,Ex.d]
 repeat' first|simp only[go_sem, *]|apply bc<;>intro J
 refine zV (λi fr h=>fr 2=.iptr [ca,cb,ce,cp] 0/\fr 3=.iptr [.int .i64 k,.str nm,.str x,d] 0/\fr 10=.int .i64 (i:Int)/\h=g/\∃out,Fin 1 (qJ out) (fr 6)/\zEu k i out.length/\(∀a∈out,AltB (yt (l.take i)) a)/\MnI c k RK (l.drop i) i (out.map Alt.ts)) l.length ow ?_ ?_ ?_
 ·have W:∃out,Fin 1 (qJ out) .nilsl/\zEu k 0 out.length/\(∀a∈out,AltB (yt (l.take 0)) a)/\MnI c k RK (l.drop 0) 0 (out.map Alt.ts):=⟨[],.inl ⟨rfl,rfl⟩,⟨by simp,λ_=>by simp⟩,(λa h=>by cases h),[],Y,T3.symm,λ_=>rfl⟩;clear B f T a2 Y;simp only[go_sem,zQ,zS,zF];exact W
 ·clear Y a2;rintro i fr h R ec ew ⟨f2,f3,cl,F,out,w,L,p,t⟩;subst F;obtain⟨o,f6⟩:∃o,fr 6=o:=⟨_,rfl⟩;rw[f6]at w;have a1:=kG hd R;have ba:=T i R;have c0:=GH R;have cs:=UQ l (i+1);have f:=f h (Ext.refl h);rw[z6 R]at t;generalize l.drop (i+1)=rest at *
  generalize l[i]=y at *
  simp only[Ex.cells]at a1 ba;rw[c0]at cs⊢;clear T B
  repeat' first|simp only[go_sem, *]|apply bc<;>intro J
  refine zd kr ?_
  repeat' first|simp only[go_sem, *]|apply bc<;>intro J
  refine(ba _).mono ?_;rintro r h2 ⟨F,q,b,rfl,l2,N,U,a7⟩;subst F;clear ba;cases u:rB c y with
  |none=>
   rw[u]at a7;subst a7;have f:=f (t.none u);clear N U w p t u
   repeat' first|simp only[go_sem, *]|apply bc<;>intro J
  |some L2=>
  rw[u]at a7;obtain⟨rfl,G,b6⟩:=a7;have A:∀a∈out,AltB (yt (l.take i)+y.size) a:=λa h=>(p a h).mono ow;have H:∀a∈l2,AltB (yt (l.take i)+y.size) a:=λa h=>(U a h).mono ow;rcases hk with rfl|rfl
  ·have cc:out.length<=64:=L.2 rfl;have ad:∀r S,Fin 1 (qJ S) r->(∀a∈S,AltB (yt (l.take i)+y.size) a)->S.length<=64->MnI c 2 RK rest (i+1) (S.map Alt.ts)->∃out,Fin 1 (qJ out) r/\zEu 2 (i+1) out.length/\(∀a∈out,AltB (yt (l.take i)+y.size) a)/\MnI c 2 RK rest (i+1) (out.map Alt.ts):=λr S q1 q2 q3 q4=>⟨S,q1,⟨by omega,λ_=>q3⟩,q2,q4⟩;cases i0:((i:Int)==0)with
   |true=>
    have c7:i<=0:=by have:=yU.1 i0;omega
    have ai:=L.1;have ag:i=0:=ow;have ak:out= []:=yv.1 (by have:=L.1;rw[ag]at this;omega);have M:=TM (m:=yt (l.take i)+y.size) w.isSl N.isSl ow ow (λa h=>(A a h).io) (λa h=>(H a h).io);rw[ak,yT,G,T2 u]at M;have K:=t.and0 ag u (by rw[<-G,zI];exact b6);clear p U A H w N L t ag ak f
    repeat' first|simp only[go_sem, *]|apply bc<;>intro J
    refine(M _).mono ?_;rintro r h3 ⟨F,S,v,bd,E,C⟩;subst F;simp only[yw]at bd;have W:=ad r S v E ow (by rw[C];exact K);have cv:=tf v.isSl;have a4:decide ((S.length:Int)>64)=false:=zO ow;clear M v E ad ai C K u G
    repeat' first|simp only[go_sem, *]|apply bc<;>intro J
   |false=>
    have a3:=Da (m:=yt (l.take i)) (n:=y.size) w.isSl N.isSl cc b6 ow p U;rw[G]at a3;have a5:i≠0:=by intro q;rw[q]at i0;cases i0
    clear p U A H w N L
    repeat' first|simp only[go_sem, *]|apply bc<;>intro J
    refine(a3 _).mono ?_;rintro r h3 ⟨F,S,v,bd,E,C⟩;subst F;have cv:=tf v.isSl;have a8:S.length=(yO (pZ (out.map Alt.ts) L2)).length:=by rw[<-C,zI]
    cases a4:decide ((S.length:Int)>64)with
    |true=>
     have f:=f (t.andN a5 u (by have:=zg a4;omega));clear a3 v E ad C a8 t u G a5
     repeat' first|simp only[go_sem, *]|apply bc<;>intro J
    |false=>
     have W:=ad r S v E (by have:=zq a4;omega) (by rw[C];exact t.andS a5 u (by have:=zq a4;omega));clear a3 v E ad C a8 t u G a5 f;exact au
  ·have ai:=L.1;have M:=TM (m:=yt (l.take i)+y.size) w.isSl N.isSl ow ow (λa h=>(A a h).io) (λa h=>(H a h).io);rw[yX,G]at M;have K:=t.or u;clear p U A H w N L t u f
   repeat' first|simp only[go_sem, *]|apply bc<;>intro J
   refine(M _).mono ?_;rintro r h3 ⟨F,S,v,bd,E,C⟩;subst F;have W:∃out,Fin 1 (qJ out) r/\zEu 3 (i+1) out.length/\(∀a∈out,AltB (yt (l.take i)+y.size) a)/\MnI c 3 RK rest (i+1) (out.map Alt.ts):=⟨S,v,⟨by omega,λq=>by cases q⟩,E,by rw[C];exact K⟩;clear M v E ai C K G;exact au
 ·rintro fr h ec ⟨f2,f3,cl,F,out,w,L,p,t⟩;subst F;rw[tr]at t;obtain⟨P,hP,b0⟩:=t.fin hk;have j:=a2 P hP;obtain⟨o,f6⟩:∃o,fr 6=o:=⟨_,rfl⟩;rw[f6]at w;have b7:=tf w.isSl;rw[zb]at p;have F:=B (.tuple [o,.bool (decide ((out.length:Int)<=64))]) h (Ext.refl h) (by rw[j];exact ZS.szd w (λa h=>(p a h).mono ow) b0);clear B w p f T hP b0 j a2 Y;exact au
def OfE(c:Cat)(e:Ex)(r:D):Prop:=∃q,r=.tuple [q,.int .i64 (nK c e)]/\∃l,Fin 1 (qJ l) q/\l.length<=64/\(∀a∈l,AltB 120 a)/\(nK c e=0->l.map Alt.ts=ofL c e)
theorem zF3{c:Cat}{v:D}(m:uM c v)(z:c.Sm){e:Ex}(n:e.Ok)(o:e.size<=120)(g:Heap):zB prog 109 [v,.agg e.cells] g λr h'=>h'=g/\OfE c e r:=by
 refine xP λQ t=> ?_;have h1:=TK m z n ow;have k:=λh0 E=>Df m z h0 _ (zD _) n E o;obtain⟨H,I,ce,J,rfl,_,_,_,_⟩:=m;have d:nK c e≠0->Q (.tuple [.nilsl,.int .i64 (nK c e)]) g:=λG=>t _ _ ⟨rfl,.nilsl,rfl,[],.inl ⟨rfl,rfl⟩,by simp,(λa h=>by cases h),λq=>absurd q G⟩;have f:∀q l,nK c e=0->Fin 1 (qJ l) q->l.length<=64->(∀a∈l,AltB e.size a)->l.map Alt.ts=ofL c e->Q (.tuple [q,.int .i64 0]) g:=λq l h0 h1 k h3 B=>t _ _ ⟨rfl,q,by rw[h0],l,h1,k,(λa h=>(h3 a h).mono o),λ_=>B⟩;clear t;simp only[Ex.cells]at h1 k⊢;refine z5 zGf ?_;simp only[f109,zA];cases s:(tT c e==0)with
 |false=>
  have i:nK c e=tT c e:=by unfold nK;rw[s,iq (by decide)]
  rw[i]at d;have d:=d (by simpa using s);clear f k i
  repeat' first|simp only[go_sem, *]|apply bc<;>intro m|(refine zB.mono (h1 _) ?_;rintro r h ⟨u,rfl⟩)
 |true=>
 obtain⟨w,A,x⟩:=Tb (show tT c e=0 by simpa using s);have k:=k w x;have i:nK c e=match rB c e with
  |some _=>0
  |none=>10:=by unfold nK;rw[s,ip rfl];cases rB c e<;>rfl
 clear w A x
 repeat' first|simp only[go_sem, *]|apply bc<;>intro m|(refine zB.mono (h1 _) ?_;rintro r h ⟨u,rfl⟩)
 refine(k _).mono ?_;rintro r h ⟨u,q,b,rfl,l,hf,C,p⟩;subst u;clear k;cases j:rB c e with
 |none=>
  rw[j]at p i;subst p;have i:nK c e=10:=i;rw[i]at d;have d:=d (by decide);clear f i j
  repeat' first|simp only[go_sem, *]|apply bc<;>intro m
 |some L=>
  rw[j]at p i;obtain⟨rfl,y,F⟩:=p;have hf:=f q l i hf F C (by unfold ofL;rw[j];exact y);clear f d i j y;exact au
theorem Zi{l:List (List UInt8)}{d:D}(u:ye 1 (uH l) d)(G:l.length<=1048576)(s:List UInt8)(g:Heap):zB prog 63 [d,.str s] g λr h'=>h'=g/\r=.int .i64 (cK (λx=>x==s) l):=by
 have v:=wd u;obtain⟨R,f⟩:∃R,cK (λx=>x==s) l=R:=⟨_,rfl⟩;rw[f];refine z5 zKb ?_;simp only[f63,zA]
 repeat' first|simp only[go_sem, *]|apply bc<;>intro t
 refine zV (λi fr h=>fr 0=d/\fr 1=.str s/\fr 5=.int .i64 (i:Int)/\h=g/\∀j (c:j<l.length),j<i->(l[j]==s)=false) l.length ow ?_ ?_ ?_
 ·clear f;simp only[go_sem,zQ,zS,zF];exact λj c h0=>absurd h0 (zj _)
 ·rintro i fr h e w F ⟨z,A,B,n,c⟩;subst n;have E:=t9 u e;have b:=λq=>(lX (p:=λx=>x==s) e c q).symm.trans f;have a:=λq=>qp (p:=λx=>x==s) e c q;generalize l[i]=y at *
  clear c f;cases o:(y==s)with
  |true=>
   have b:=b o;subst b;clear a
   repeat' first|simp only[go_sem, *]|apply bc<;>intro t
  |false=>
   have C:=a o;clear a b
   repeat' first|simp only[go_sem, *]|apply bc<;>intro t
   exact C
 ·rintro fr h w ⟨z,A,B,n,c⟩;subst n;have m:=(lY (p:=λx=>x==s) λj k=>c j k k).symm.trans f;subst m;clear c f;exact au
structure Als where
 l:List Alt
 d:D
structure Als.Ok(a:Als):Prop where
 sl:ye 1 (qJ a.l) a.d
 len:a.l.length<=64
 pl:sH [a.d]
 ok:∀b∈a.l,AltB 120 b
def Als.v(a:Als):List (List Trm):=a.l.map Alt.ts
def Rz(l:List Als):List (List D):=l.map λa=>[a.d]
theorem dZ(l:List Als):(Rz l).length=l.length:=zI ..
theorem Ij{l:List Als}{i:Nat}(h:i<l.length):(Rz l)[i]? =some [l[i].d]:=by simp[Rz,h]
theorem Il(l:List Als):∀x∈Rz l,x.length=1:=λx b=>by
 obtain⟨a,_,rfl⟩:=zT.1 b;rfl
theorem Hk{l:List Als}{d:D}(a:ye 1 (Rz l) d)(h:Heap):js prog 96 d h=some (.int .i64 l.length):=by rw[uV a underlying96,dZ]
theorem DD{l:List Als}{d:D}(a:ye 1 (Rz l) d){i:Nat}(b:i<l.length):yP prog 96 d (.int .i64 (i:Int))=some (.iptr [l[i].d] 0):=qA a fJ Xj (Ij b)
theorem Hx(d:D)(nid:Nat)(h:Heap)(h1:d.cells= [d])(a:d.notTuple=true)(h3:d.flat=true):yB prog false nid 96 1 [(0,d)] h=some (.sl 1 [[d]] .full,h):=by
 have:=wP (P:=prog) (nid:=nid) (h:=h) (x:=d) fJ N6 Xj rfl rfl ow ow a (by rw[h1];rfl);rw[h1]at this;exact this
def zJy(v:Ad)(r:D):Prop:=∃ts tq oq,r=.tuple [tq,oq,.int .i64 v.2.2]/\Fin 1 (Rz ts) tq/\(∀a∈ts,a.Ok)/\ts.map Als.v=v.1/\Fin 1 (uH v.2.1) oq
def R8(c:Cat)(g:Heap)(R:Ad)(rest:List Fac)(i:Nat)(td od:D)(h:Heap):Prop:=∃ts os,Own2 g h 1 (Rz ts) td 1 (uH os) od/\(∀a∈ts,a.Ok)/\ts.length<=i/\os.length<=i/\bl c rest (ts.map Als.v) os=R
theorem Ii(l:List Als)(z:Als):Rz (l++ [z])=Rz l++Rz [z]:=by simp[Rz]
theorem Jt(l:List (List UInt8))(z:List UInt8):uH (l++ [z])=uH l++uH [z]:=by simp[uH]
theorem TO{c:Cat}{D0 x:D}(u:uM c D0)(hs:c.Sm){fs:List Fac}(T:ye 12 (dj fs) x)(hl:fs.length<=260)(P:∀f∈fs,f.Ok)(O:∀f∈fs,f.e.size<=120)(g:Heap):zB prog 57 [D0,x] g λr h'=>h'=g/\zJy (wZ c fs) r:=by
 refine xU kr λak=>xS ?_;refine xP λQ V=> ?_;have J:=MO u hs T ow P;have y:=λi (hi:i<fs.length)=>zF3 u hs (P _ (zG hi)).e (O _ (zG hi));have ai:=rh T;have a2:=cH;have a3:=jX;obtain⟨R,H⟩:∃R,wZ c fs=R:=⟨_,rfl⟩;rw[H]at V;unfold wZ at H;have d:∀n h,R=([],[],n)->Ext g h->Q (.tuple [.nilsl,.nilsl,.int .i64 n]) h:=λn h hr hE=>V _ _ ⟨hE,by simp[wD,wU,below,qZ],by
  rw[hr];exact⟨[],.nilsl,.nilsl,by simp[wD,wU],.inl ⟨rfl,rfl⟩,(λa h=>by cases h),rfl,.inl ⟨rfl,rfl⟩⟩⟩
 have m:∀C B h,R8 c g R [] fs.length C B h->Q (.tuple [C,B,.int .i64 0]) h:=λC B h ⟨N,os,F,h1,h2,h3,U⟩=>by
  obtain⟨X,Z,f3⟩:=F.a.fin λx T=>by
   obtain⟨a,ha,rfl⟩:=zT.1 T;exact(h1 a ha).pl
  obtain⟨g1,g2,g3⟩:=F.b.fin sw;rw[bl]at U;exact V _ _ ⟨X,by simp[wD,wU,below,qZ,Z,g2],N,wD C,wD B,by rw[<-U];simp[wD,wU],f3,h1,by rw[<-U],by rw[<-U];exact g3⟩
 obtain⟨ca,cb,ce,cp,rfl,_,_,_,_⟩:=u;have a0:=jN;clear V;refine z5 zKW ?_;simp only[f57,zA];generalize(uC c fs).1=n1 at *
 generalize(uC c fs).2=n2 at *
 cases e0:(n2==0)with
 |false=>
  rw[ip (by rw[e0];rfl)]at H;have hn:=d n2 g H.symm (Ext.refl g);clear d m y H
  repeat' first|simp only[go_sem, *]|apply bc<;>intro u|(refine zB.mono (J _) ?_;rintro r h ⟨S,rfl⟩)
 |true=>
 rw[iq (by rw[e0];decide)]at H;have M:R8 c g R (fs.drop 0) 0 .nilsl .nilsl g:=⟨[],[],Own2.start (Ext.refl g) 1 1,(λa h=>by cases h),by simp,by simp,H⟩;clear H
 repeat' first|simp only[go_sem, *]|apply bc<;>intro u|(refine zB.mono (J _) ?_;rintro r h ⟨S,rfl⟩)
 clear J;refine zV (λi fr h=>fr 1=x/\fr 2=.iptr [ca,cb,ce,cp] 0/\fr 11=.int .i64 (i:Int)/\R8 c g R (fs.drop i) i (fr 9) (fr 10) h) fs.length ow ?_ ?_ ?_
 ·clear d m y;simp only[go_sem,zQ,zS,zF];exact M
 ·clear M;rintro i fr h K ec ew ⟨X,Z,Y,F⟩;obtain⟨C,f9⟩:∃o,fr 9=o:=⟨_,rfl⟩;obtain⟨B,I⟩:∃o,fr 10=o:=⟨_,rfl⟩;rw[f9,I]at F;have a1:=wR T K;have t:=y i K;obtain⟨N,os,A,G,q3,q4,k⟩:=F;have hE:Ext g h:=A.a.1;rw[z6 K,bl]at k;have d:=λn hr=>d n h hr hE;have v:=λs h=>Zi A.b.isSl ow s h;have j:=λs=>jF (p:=λx=>x==s) (l:=os);generalize fs.drop (i+1)=rest at *
  generalize fs[i]=f at *
  simp only[Fac.cells,Ex.cells]at a1 t;clear y m;cases k1:(f.kind==1)with
  |true=>
   have k2:(f.kind==2)=false:=by
    have:=yU.1 k1;rw[this];rfl
   rw[k1,ip rfl]at k;clear v j
   repeat' first|simp only[go_sem, *]|apply bc<;>intro u
   refine zd kr ?_
   repeat' first|simp only[go_sem, *]|apply bc<;>intro u
   refine(t _).mono ?_;rintro r h2 ⟨S,q,rfl,l,hf,ad,E,z⟩;subst S;cases n0:(nK c f.e==0)with
   |false=>
    rw[iq (by rw[n0];decide)]at k;have hn:=d _ k.symm;clear d t z A G E k
    repeat' first|simp only[go_sem, *]|apply bc<;>intro u
   |true=>
   rw[ip n0]at k;have z:=z (by simpa using n0);obtain⟨z1,z2,z3⟩:=yR hf.isSl;have ag:=λnid h=>Hx q nid h z1 z2 z3;clear d t
   repeat' first|simp only[go_sem, *]|apply bc<;>intro u
   refine A.appH (zs:=Rz [⟨l,q⟩]) fJ IP Xj ow (Il _) (by simp[Rz]) (by rw[dZ,U3];unfold lim;simp[Rz];omega) (by rw[dZ];unfold lim;simp[Rz];omega) λW h' w=> ?_;have L:R8 c g R rest (i+1) W B h':=⟨N++ [⟨l,q⟩],os,by
    rw[Ii];exact w,(λa ha=>by
    rcases yD.1 ha with h1|h1
    ·exact G a h1
    ·cases zY.1 h1;exact⟨hf.isSl,ad,kN hf (YD E),E⟩),by simp;omega,by omega,by
    rw[yX,<-k,<-z];rfl⟩
   clear w A G k z E
   repeat' first|simp only[go_sem, *]|apply bc<;>intro u
  |false=>
  rw[k1,iq (by decide)]at k;clear t d;cases k2:(f.kind==2)with
  |false=>
   rw[k2,iq (by decide)]at k;have L:R8 c g R rest (i+1) C B h:=⟨N,os,A,G,by omega,by omega,k⟩;clear v j A G k
   repeat' first|simp only[go_sem, *]|apply bc<;>intro u
  |true=>
  rw[k2,ip rfl]at k;replace j:=j f.out;cases w0:(os.any λx=>x==f.out)with
  |true=>
   rw[w0]at j;rw[ip w0]at k;have L:R8 c g R rest (i+1) C B h:=⟨N,os,A,G,by omega,by omega,k⟩;clear A G k w0
   repeat' first|simp only[go_sem, *]|apply bc<;>intro u|(refine zB.mono (v _ _) ?_;rintro r h ⟨S,rfl⟩)
  |false=>
   rw[w0]at j;rw[iq (by rw[w0];decide)]at k;clear w0
   repeat' first|simp only[go_sem, *]|apply bc<;>intro u|(refine zB.mono (v _ _) ?_;rintro r h ⟨S,rfl⟩)
   refine A.swap.appH (zs:=uH [f.out]) t5 VN md ow (by simp[uH]) (by simp[uH]) (by rw[wK,kw];unfold lim;simp[uH];omega) (by rw[wK];unfold lim;simp[uH];omega) λW ab w=> ?_;have L:R8 c g R rest (i+1) C W ab:=⟨N,os++ [f.out],by
    rw[Jt];exact w.swap,G,by omega,by simp;omega,k⟩
   clear A G k w v j;exact au
 ·rintro fr h ec ⟨X,Z,Y,F⟩;obtain⟨C,f9⟩:∃o,fr 9=o:=⟨_,rfl⟩;obtain⟨B,I⟩:∃o,fr 10=o:=⟨_,rfl⟩;rw[f9,I,tr]at F;have hf:=m C B h F;clear m d y F M;exact au
theorem TN{a b:List Trm}{d e:D}(v:ye 2 (wW a) d)(w:ye 2 (wW b) e)(J:a.length<=1048576)(g:Heap):zB prog 110 [d,e] g λr h'=>h'=g/\r=.bool (cJ a b):=by
 have H:=cr v;have I:=cr w;have K:=J1;obtain⟨R,f⟩:∃R,cJ a b=R:=⟨_,rfl⟩;rw[f];refine z5 zGg ?_;simp only[f110,zA];cases q:((a.length:Int)==(b.length:Int))with
 |false=>
  have k:R=false:=by
   rw[<-f];cases h:cJ a b with
   |false=>rfl
   |true=>rw[(oX _ _).1 h]at q;simp at q
  subst k;clear f
  repeat' first|simp only[go_sem, *]|apply bc<;>intro o
 |true=>
 have p:a.length<=b.length/\b.length<=a.length:=by have:=yU.1 q;omega
 repeat' first|simp only[go_sem, *]|apply bc<;>intro o
 refine zV (λi fr h=>fr 0=d/\fr 1=e/\fr 5=.int .i64 (i:Int)/\h=g/\a.take i=b.take i) a.length ow ?_ ?_ ?_
 ·clear f;simp only[go_sem,zQ,zS,zF];rfl
 ·rintro i fr h n C L ⟨E,F,G,s,m⟩;subst s;have j:i<b.length:=ow;have A:=Zh v n;have B:=Zh w j;have h1:a.take (i+1)=a.take i++ [a[i]]:=zH n;have t:b.take (i+1)=b.take i++ [b[i]]:=zH j;have l:(yI a[i] b[i]==0)=false->R=false:=λq=>by
   rw[<-f];cases h:cJ a b with
   |false=>rfl
   |true=>
    have e:=(oX _ _).1 h;subst e;rw[sI.refl]at q;cases q
  have c:(yI a[i] b[i]==0)=true->a.take (i+1)=b.take (i+1):=λq=>by
   rw[h1,t,m,mO a[i] b[i] (by simpa using q)]
  generalize a.take (i+1)=M at *
  generalize b.take (i+1)=N at *
  generalize a[i]=x at *
  generalize b[i]=y at *
  simp only[Trm.cells]at A B;clear m h1 t f;cases u:(yI x y==0)with
  |false=>
   have z:=l u;subst z;clear l c
   repeat' first|simp only[go_sem, *]|apply bc<;>intro o
   refine zd kr ?_
   repeat' first|simp only[go_sem, *]|apply bc<;>intro o
  |true=>
   have z:=c u;clear l c
   repeat' first|simp only[go_sem, *]|apply bc<;>intro o
   refine zd kr ?_;exact au
 ·rintro fr h C ⟨E,F,G,s,m⟩;subst s;have e:a=b:=by
   rw[zb]at m;rw[m,yj p.2]
  have k:R=true:=by rw[<-f];exact(oX _ _).2 e
  subst k;clear f e m;exact au
theorem Ka(a b:List Trm):cJ a b=cJ b a:=by
 rw[tR,oX,oX];exact eq_comm
theorem Dd{l:List Alt}{s:List Trm}{d e:D}(w:ye 1 (qJ l) d)(J:l.length<=1048576)(k:∀b∈l,AltB 120 b)(F:ye 2 (wW s) e)(g:Heap):zB prog 58 [d,e] g λr h'=>h'=g/\r=.bool ((l.map Alt.ts).any λb=>cJ s b):=by
 have z:=tf w;have m:=λi (x:i<l.length)=>TN (k _ (zG x)).sl F (by have:=(k _ (zG x)).len;omega);rw[ah];refine z5 zKX ?_;simp only[f58,zA]
 repeat' first|simp only[go_sem, *]|apply bc<;>intro v
 refine zV (λi fr h=>fr 0=d/\fr 1=e/\fr 5=.int .i64 (i:Int)/\h=g/\∀j (n:j<l.length),j<i->((λb=>cJ s b) ∘ Alt.ts) l[j]=false) l.length ow ?_ ?_ ?_
 ·clear m;simp only[go_sem,zQ,zS,zF];exact λj n h0=>absurd h0 (zj _)
 ·rintro i fr h f A I ⟨B,C,E,t,n⟩;subst t;have H:=ru w f;obtain⟨K,L,M⟩:=yR (k _ (zG f)).sl;have u:=m i f;rw[Ka]at u;have c:=λq=>pW (p:=(λb=>cJ s b) ∘ Alt.ts) f q;have a:=λq=>qp (p:=(λb=>cJ s b) ∘ Alt.ts) f n q;simp only[Function.comp]at c a;clear m n k;cases o:cJ s l[i].ts with
  |true=>
   rw[o]at u;have c:=c o;simp only[Function.comp];rw[c];clear c a o;generalize l[i]=y at *
   repeat' first|simp only[go_sem, *]|apply bc<;>intro v|(refine zB.mono (u _) ?_;rintro r h ⟨t,rfl⟩)
  |false=>
   rw[o]at u;have G:=a o;clear c a o;generalize l[i]=y at *
   repeat' first|simp only[go_sem, *]|apply bc<;>intro v|(refine zB.mono (u _) ?_;rintro r h ⟨t,rfl⟩)
   exact G
 ·rintro fr h A ⟨B,C,E,t,n⟩;subst t;rw[rO n];clear n m;exact au
theorem WB{c:Cat}{D0 x z:D}(o:uM c D0)(hs:c.Sm){fs:List Fac}(hx:ye 12 (dj fs) x)(hl:fs.length<=260)(a9:∀f∈fs,f.Ok)(ad:∀f∈fs,f.e.size<=120){y:Cho}(hy:ZR y z)(ba:y.Sm)(p:Bool)(g:Heap):
  zB prog 24 [D0,x,z,.bool p] g λr h'=>h'=g/\r=.int .i64 (qR c fs y p):=by
 have a3:=TO o hs hx hl a9 ad;have N:=QR o hs;obtain⟨ca,cb,ce,cp,rfl,_,_,_,_⟩:=o;obtain⟨ya,yb,rfl,ha,hb⟩:=hy;obtain⟨y1,y2,y3⟩:=ba;have b0:=tf ha;have b1:=wd hb;refine xU kr λbk=> ?_;refine xP λQ hQ=> ?_;obtain⟨E,m⟩:∃E,qR c fs y p=E:=⟨_,rfl⟩;have d:∀h',Ext g h'->Q (.int .i64 E) h':=λh' Z=>hQ _ _ ⟨Z,trivial,by rw[m]⟩;have t:(wZ c fs).2.2=0->qz c=0:=λh=>by
  unfold wZ at h;split at h
  ·rename_i q;rw[h]at q;exact absurd q (by decide)
  ·rename_i q;have q:(uC c fs).2=0:=by simpa using q
   unfold uC at q;split at q
   ·cases q
   ·rename_i q2;simpa using q2
 clear hQ;unfold qR at m;generalize wZ c fs=v at *
 refine z5 zKF ?_;simp only[f24,zA]
 repeat' first|simp only[go_sem, *]|apply bc<;>intro o
 refine(a3 _).mono ?_;rintro r h ⟨B,R,td,od,rfl,a0,L,J,a8⟩;subst B;clear a3;have e0:=Ext.refl h;have bs:=Hk a0.isSl;have bx:=wd a8.isSl;have P:v.1.length=R.length:=by rw[<-J,zI]
 cases q1:(v.2.2==0)with
 |false=>
  rw[ip (by rw[q1];rfl)]at m;have B:=d h e0;rw[<-m]at B;clear d m J P L
  repeat' first|simp only[go_sem, *]|apply bc<;>intro o
 |true=>
 have t:=t (by simpa using q1);rw[iq (by rw[q1];decide),P]at m;cases q2:((y.ts.length:Int)==(R.length:Int))with
 |false=>
  rw[ip (by rw[q2];rfl)]at m;have B:=d h e0;rw[<-m]at B;clear d m J P L t
  repeat' first|simp only[go_sem, *]|apply bc<;>intro o
 |true=>
 cases q3:((y.own.length:Int)==(v.2.1.length:Int))with
 |false=>
  rw[ip (by rw[q2,q3];rfl)]at m;have B:=d h e0;rw[<-m]at B;clear d m J P L t
  repeat' first|simp only[go_sem, *]|apply bc<;>intro o
 |true=>
 rw[iq (by rw[q2,q3];decide)]at m;have bb:y.ts.length<=R.length/\R.length<=y.ts.length:=by have:=yU.1 q2;omega
 have bd:y.own.length<=v.2.1.length/\v.2.1.length<=y.own.length:=by have:=yU.1 q3;omega
 obtain⟨F,Y⟩:∃F,ml (nk v.1 y.ts p) y.ts.length=F:=⟨_,rfl⟩;rw[Y]at m;clear P
 repeat' first|simp only[go_sem, *]|apply bc<;>intro o
 clear q1;refine zV (λi fr h2=>fr 3=.bool p/\fr 4=.iptr [ca,cb,ce,cp] 0/\fr 6=.iptr [ya,yb] 0/\fr 9=td/\fr 10=od/\fr 12=.int .i64 (i:Int)/\h2=h/\∀j,j<i->nk v.1 y.ts p j=0) R.length ow ?_ ?_ ?_
 ·have h0:∀j,j<0->nk v.1 y.ts p j=0:=λj I=>absurd I (zj _);clear J L t m Y d;simp only[go_sem,zQ,zS,zF];exact h0
 ·rintro i fr h2 T ec ew ⟨V,W,X,f9,M,ab,B,I⟩;subst B;have G:i<y.ts.length:=ow;have a1:=ru ha G;have a2:=DD a0.isSl T;have O:=L _ (zG T);have sm:=y3 _ (zG G);have A:nk v.1 y.ts p i=if(p&&((y.ts[i].ts.length:Int)==0))=true then 0 else if(!(R[i].v.any λb=>cJ y.ts[i].ts b))=true then 1 else 0:=by
   unfold nk;rw[zE G];simp only;rw[<-J,zK,yK,zE T];rfl
  have n:=λ(e:nk v.1 y.ts p i=0)=>um (f:=nk v.1 y.ts p) I e;have k:=λ(e:nk v.1 y.ts p i≠0)=>pQ (f:=nk v.1 y.ts p) G I e;rw[Y]at k;have S:=Dd O.sl (by have:=O.len;omega) O.ok sm.sl;have ak:(List.map Alt.ts R[i].l)=R[i].v:=rfl;rw[ak]at S;obtain⟨k1,k2,k3⟩:=yR sm.sl;obtain⟨w1,w2,w3⟩:=yR O.sl;have b3:=wT sm.sl;generalize(R[i].v.any λb=>cJ y.ts[i].ts b)=C at *
  generalize y.ts[i]=a at *
  generalize R[i]=b at *
  clear I Y J L t ak O sm;have a7:∀h,HLe Heap.emp h:=λh i ob e=>by cases e
  cases K:(p&&((a.ts.length:Int)==0))with
  |true=>
   rw[K,ip rfl]at A;have U:=n A;simp only[zC]at K;obtain⟨rfl,K⟩:=K;clear n k A S d m
   repeat' first|simp only[go_sem, *]|apply bc<;>intro o
   refine zd kr ?_
   repeat' first|simp only[go_sem, *]|apply bc<;>intro o
   exact U
  |false=>
  rw[K,iq (by decide)]at A;cases C with
  |true=>
   have U:=n A;clear n k A d m;cases p
   all_goals
    try simp only[yL]at K
    repeat' first|simp only[go_sem, *]|apply bc<;>intro o
    refine zd kr ?_
    repeat' first|simp only[go_sem, *]|apply bc<;>intro o|(refine zB.mono (S _) ?_;rintro r h ⟨B,rfl⟩)
    exact U
  |false=>
   rw[ip (by decide)]at A;have k:=k (by rw[A];decide);rw[A]at k;rw[k,ip (by decide)]at m;have B:=d h2 e0;rw[<-m]at B;clear n k A d m;cases p
   all_goals
    try simp only[yL]at K
    repeat' first|simp only[go_sem, *]|apply bc<;>intro o
    refine zd kr ?_
    repeat' first|simp only[go_sem, *]|apply bc<;>intro o|(refine zB.mono (S _) ?_;rintro r h ⟨B,rfl⟩)
 rintro fr h2 ec ⟨V,W,X,f9,M,ab,B,I⟩;subst B;have ag:F=0:=by rw[<-Y];exact u9 λj a6=>I j ow
 rw[ag,iq (by decide)]at m;clear I Y ag J L
 repeat' first|simp only[go_sem, *]|apply bc<;>intro o
 clear f9 ab;refine zV (λi fr h3=>fr 3=.bool p/\fr 4=.iptr [ca,cb,ce,cp] 0/\fr 6=.iptr [ya,yb] 0/\fr 10=od/\fr 13=.int .i64 (i:Int)/\Ext h2 h3/\∀j,j<i->RE c y.own p j=0) v.2.1.length ow ?_ ?_ ?_
 ·have h0:∀j,j<0->RE c y.own p j=0:=λj I=>absurd I (zj _);clear m d t;simp only[go_sem,zQ,zS,zF,V,W,X,M];exact⟨e0,h0⟩
 ·clear V W X M fr;rintro i fr h3 T ec ew ⟨V,W,X,M,a4,Z,I⟩;have G:i<y.own.length:=ow;have a1:=t9 hb G;have u:RE c y.own p i=if(p&&(y.own[i]== []))=true then 0 else if(!(sE c y.own[i]).isSome)=true then 7 else 0:=by
   unfold RE;rw[zE G,Wd,t];rfl
  have n:=λ(e:RE c y.own p i=0)=>um (f:=RE c y.own p) I e;have k:=λ(e:RE c y.own p i≠0)=>pQ (f:=RE c y.own p) G I e;rw[m]at k;obtain⟨w,ai⟩:=Wc c y.own[i];have N:=N y.own[i];rw[ai]at N;have b4:=lM w h3 h3.next;have a5:=Z.new Z.1 (.row [.str w.name,.str w.fam,.int .i64 w.ver,.str w.text]);have a7:∀h,HLe Heap.emp h:=λh i ob e=>by cases e
  generalize(sE c y.own[i]).isSome=C at *
  generalize y.own[i]=s at *
  clear I ai t;cases K:(p&&(s== []))with
  |true=>
   rw[K,ip rfl]at u;have U:=n u;simp only[zC]at K;obtain⟨rfl,K⟩:=K;clear n k u d m
   repeat' first|simp only[go_sem, *]|apply bc<;>intro o
   exact U
  |false=>
  rw[K,iq (by decide)]at u;cases C with
  |true=>
   have U:=n u;clear n k u d m;cases p
   all_goals
    try simp only[yL]at K
    repeat' first|simp only[go_sem, *]|apply bc<;>intro o
    refine qD Heap.emp [(0,.st,true),(1,.no,true),(2,.st,true),(3,.no,true),(4,.no,true),(5,.st,true),(6,.st,true),(7,.no,true),(8,.no,true),(9,.no,true),(10,.no,true),(11,.no,true),(12,.no,true)] kr kr (λi ob e=>by cases e) ?_
    repeat' first|simp only[go_sem, *]|apply bc<;>intro o
    refine JI _ (λH=>N H) ?_
    repeat' first|simp only[go_sem, *]|apply bc<;>intro o
    exact U
  |false=>
   rw[ip (by decide)]at u;have k:=k (by rw[u];decide);rw[u]at k;have B:=d _ a5;rw[k]at B;clear n k u d m;cases p
   all_goals
    try simp only[yL]at K
    repeat' first|simp only[go_sem, *]|apply bc<;>intro o
    refine qD Heap.emp [(0,.st,true),(1,.no,true),(2,.st,true),(3,.no,true),(4,.no,true),(5,.st,true),(6,.st,true),(7,.no,true),(8,.no,true),(9,.no,true),(10,.no,true),(11,.no,true),(12,.no,true)] kr kr (λi ob e=>by cases e) ?_
    repeat' first|simp only[go_sem, *]|apply bc<;>intro o
    refine JI _ (λH=>N H) ?_;exact au
 ·clear V W X M fr;rintro fr h3 ec ⟨V,W,X,M,a4,Z,I⟩;have B:=d h3 Z;rw[<-m,u9 λj a6=>I j ow]at B;clear I m d t;exact au
end Go.V
