/- Contracts of functions that the law reaches, part 4. No condition. -/
import Derived.Test.YtalepjdbhjinhaaGreatDoorW06
import Derived.Test.YtalepjdbhjinhaaGreatDoorW33
import Derived.Test.YtalepjdbhjinhaaGreatDoorW39
import Derived.Test.YtalepjdbhjinhaaGreatDoorW31
import Derived.Test.YtalepjdbhjinhaaGreatDoorW32
import Derived.Test.YtalepjdbhjinhaaGreatDoorW28
import Derived.Test.YtalepjdbhjinhaaGreatDoorW29
set_option linter.all false
namespace Go.V
open Go.Proofs
theorem zAS {α:Type} {f:α→List D} {p:α→Prop} :∀ {ys:List (List D)},(∀y∈ys,∃s,y=f s∧p s)→∃l:List α,ys=l.map f∧∀s∈l,p s
 | [],_=>⟨[],rfl,fun n hn=>by cases hn⟩
 |y::ys,h=>by
  obtain⟨n,rfl,hn⟩:=h y (by simp);obtain⟨ks,rfl,hk⟩:=zAS (ys:=ys) fun z hz=>h z (List.mem_cons_of_mem _ hz);exact⟨n::ks,rfl,fun m hm=>by
   rcases List.mem_cons.1 hm with rfl|hm
   ·exact hn
   ·exact hk m hm⟩
theorem zCM {k:Nat} {c:List D} (h:Shp Tryz.prog k 31 c):∃d l,c= [d]∧zX 1 (zt l) d∧l.length≤1048576:=by
 obtain⟨d,xs,j,e,hj,hs,_,hl,hx⟩:=zBu Tryz.underlying31 yu h;obtain⟨l,rfl,hk⟩:=zAS (f:=fun s:List UInt8=>[D.str s]) fun y hy=>qf Tryz.underlying9 (hx y hy);rw[List.length_map] at hl;exact⟨d,l,e,hs,hl⟩
theorem zWC {k:Nat} {c:List D} (h:Shp Tryz.prog k 137 c):∃d l,c= [d]∧zX 1 (zKO l) d∧l.length≤1048576:=by
 obtain⟨d,xs,j,e,hj,hs,_,hl,hx⟩:=zBu Tryz.underlying137 zM8 h;obtain⟨l,rfl,hk⟩:=zAS (f:=fun s:Int=>[D.int .i64 s]) fun y hy=>zBc Tryz.underlying3 (hx y hy);rw[List.length_map] at hl;exact⟨d,l,e,hs,hl⟩
theorem zaT {k:Nat} {c:List D} (h:Shp Tryz.prog k 56 c):∃n:Lic,c=n.cells∧n.Sm:=by
 obtain⟨j,_,hf⟩:=qM Tryz.underlying56 h;obtain⟨c1,r1,rfl,h1,hf⟩:=zN hf;obtain⟨c2,r2,rfl,h2,hf⟩:=zN hf;obtain⟨c3,r3,rfl,h3,hf⟩:=zN hf;obtain⟨c4,r4,rfl,h4,hf⟩:=zN hf;obtain rfl:=wa hf;obtain⟨s1,rfl,b1⟩:=qf Tryz.underlying9 h1;obtain⟨s2,rfl,b2⟩:=qf Tryz.underlying9 h2;obtain⟨s3,rfl,b3⟩:=zBc Tryz.underlying3 h3;obtain⟨s4,rfl,b4⟩:=qf Tryz.underlying9 h4;exact⟨⟨s1,s2,s3,s4⟩,rfl,b1,b2,b4⟩
theorem zaU {k:Nat} {c:List D} (h:Shp Tryz.prog k 139 c):∃n:Exc,c=n.cells∧n.Ok:=by
 obtain⟨j,_,hf⟩:=qM Tryz.underlying139 h;obtain⟨c1,r1,rfl,h1,hf⟩:=zN hf;obtain⟨c2,r2,rfl,h2,hf⟩:=zN hf;obtain⟨c3,r3,rfl,h3,hf⟩:=zN hf;obtain rfl:=wa hf;obtain⟨s1,rfl,b1⟩:=qf Tryz.underlying9 h1;obtain⟨s2,rfl,b2⟩:=qf Tryz.underlying9 h2;obtain⟨d,l,rfl,i3,b3⟩:=zWC h3;exact⟨⟨s1,s2,l,d⟩,rfl,i3,b3,b1⟩
theorem zaV {k:Nat} {c:List D} (h:Shp Tryz.prog k 143 c):∃n:Cla,c=n.cells∧n.Ok:=by
 obtain⟨j,_,hf⟩:=qM Tryz.underlying143 h;obtain⟨c1,r1,rfl,h1,hf⟩:=zN hf;obtain⟨c2,r2,rfl,h2,hf⟩:=zN hf;obtain⟨c3,r3,rfl,h3,hf⟩:=zN hf;obtain⟨c4,r4,rfl,h4,hf⟩:=zN hf;obtain⟨c5,r5,rfl,h5,hf⟩:=zN hf;obtain rfl:=wa hf;obtain⟨s1,rfl,b1⟩:=qf Tryz.underlying9 h1;obtain⟨s2,rfl,b2⟩:=zBc Tryz.underlying3 h2;obtain⟨s3,rfl,b3⟩:=zBc Tryz.underlying3 h3;obtain⟨s4,rfl,b4⟩:=zBc Tryz.underlying3 h4;obtain⟨d,l,rfl,i5,b5⟩:=zCM h5;exact⟨⟨s1,s2,s3,s4,l,d⟩,rfl,i5,b5⟩
theorem zaW {k:Nat} {c:List D} (h:Shp Tryz.prog k 147 c):∃n:Apt,c=n.cells∧True:=by
 obtain⟨j,_,hf⟩:=qM Tryz.underlying147 h;obtain⟨c1,r1,rfl,h1,hf⟩:=zN hf;obtain⟨c2,r2,rfl,h2,hf⟩:=zN hf;obtain rfl:=wa hf;obtain⟨s1,rfl,b1⟩:=qf Tryz.underlying9 h1;obtain⟨s2,rfl,b2⟩:=qf Tryz.underlying9 h2;exact⟨⟨s1,s2⟩,rfl,trivial⟩
theorem zaX {k:Nat} {c:List D} (h:Shp Tryz.prog k 27 c):∃n:Cat,wR n (.agg c)∧n.Sm:=by
 obtain⟨j,_,hf⟩:=qM Tryz.underlying27 h;obtain⟨c1,r1,rfl,h1,hf⟩:=zN hf;obtain⟨c2,r2,rfl,h2,hf⟩:=zN hf;obtain⟨c3,r3,rfl,h3,hf⟩:=zN hf;obtain⟨c4,r4,rfl,h4,hf⟩:=zN hf;obtain rfl:=wa hf;obtain⟨d1,x1,j1,rfl,_,i1,_,b1,h1⟩:=zBu Tryz.underlying22 zDS h1;obtain⟨d2,x2,j2,rfl,_,i2,_,b2,h2⟩:=zBu Tryz.underlying23 zHK h2;obtain⟨d3,x3,j3,rfl,_,i3,_,b3,h3⟩:=zBu Tryz.underlying24 zCi h3;obtain⟨d4,x4,j4,rfl,_,i4,_,b4,h4⟩:=zBu Tryz.underlying25 zKF h4;obtain⟨l1,rfl,k1⟩:=zAS fun y hy=>zaT (h1 y hy);obtain⟨l2,rfl,k2⟩:=zAS fun y hy=>zaU (h2 y hy);obtain⟨l3,rfl,k3⟩:=zAS fun y hy=>zaV (h3 y hy)
 obtain⟨l4,rfl,k4⟩:=zAS fun y hy=>zaW (h4 y hy);rw[List.length_map] at b1 b2 b3 b4;exact⟨⟨l1,l2,l3,l4⟩,⟨d1,d2,d3,d4,rfl,i1,i2,i3,i4⟩,⟨b1,k1⟩,⟨b2,k2⟩,⟨b3,k3⟩,b4⟩
theorem zXo:∀ {l:List Ex},(∀e∈l,e.Ok)→okL l
 | [],_=>by simp only[okL]
 |e::l,h=>by simp only[okL];exact⟨h e (by simp),zXo fun x hx=>h x (List.mem_cons_of_mem _ hx)⟩
theorem zXp (k:Nat):∀ {c:List D},Shp Tryz.prog k 62 c→∃e:Ex,c=e.cells∧e.Ok:=by
 induction k using Nat.strongRecOn with
 |_ k ih=>
 intro c h;obtain⟨j,hj,hf⟩:=qM Tryz.underlying62 h;obtain⟨c1,r1,rfl,h1,hf⟩:=zN hf;obtain⟨c2,r2,rfl,h2,hf⟩:=zN hf;obtain⟨c3,r3,rfl,h3,hf⟩:=zN hf;obtain⟨c4,r4,rfl,h4,hf⟩:=zN hf;obtain rfl:=wa hf;obtain⟨s1,rfl,b1⟩:=zBc Tryz.underlying3 h1;obtain⟨s2,rfl,b2⟩:=qf Tryz.underlying9 h2;obtain⟨s3,rfl,b3⟩:=qf Tryz.underlying9 h3;obtain⟨d4,x4,m,rfl,hm,i4,_,b4,h4⟩:=zBu Tryz.underlying60 zRa h4;obtain⟨l,rfl,kl⟩:=zAS fun y hy=>ih m (by omega) (h4 y hy);rw[List.length_map] at b4;exact⟨.mk s1 s2 s3 l d4,rfl,by simp only[Ex.Ok];exact⟨i4,b4,b2,b3,zXo kl⟩⟩
theorem zaY {k:Nat} {c:List D} (h:Shp Tryz.prog k 83 c):∃f:Fac,c=f.cells∧f.Ok0:=by
 obtain⟨j,_,hf⟩:=qM Tryz.underlying83 h;obtain⟨c1,r1,rfl,h1,hf⟩:=zN hf;obtain⟨c2,r2,rfl,h2,hf⟩:=zN hf;obtain⟨c3,r3,rfl,h3,hf⟩:=zN hf;obtain⟨c4,r4,rfl,h4,hf⟩:=zN hf;obtain⟨c5,r5,rfl,h5,hf⟩:=zN hf;obtain⟨c6,r6,rfl,h6,hf⟩:=zN hf;obtain⟨c7,r7,rfl,h7,hf⟩:=zN hf;obtain⟨c8,r8,rfl,h8,hf⟩:=zN hf;obtain⟨c9,r9,rfl,h9,hf⟩:=zN hf;obtain rfl:=wa hf;obtain⟨s1,rfl,b1⟩:=zBc Tryz.underlying3 h1;obtain⟨s2,rfl,b2⟩:=qf Tryz.underlying9 h2;obtain⟨s3,rfl,b3⟩:=qf Tryz.underlying9 h3;obtain⟨s4,rfl,b4⟩:=zBc Tryz.underlying3 h4;obtain⟨s5,rfl,b5⟩:=zBc Tryz.underlying3 h5;obtain⟨s6,rfl,b6⟩:=zBc Tryz.underlying3 h6
 obtain⟨s7,rfl⟩:=zVI Tryz.underlying4 h7;obtain⟨e,rfl,b8⟩:=zXp _ h8;obtain⟨d,l,rfl,i9,b9⟩:=zCM h9;exact⟨⟨s1,s2,s3,s4,s5,s6,s7,e,l,d⟩,rfl,b8,i9,b9,b2,b3⟩
theorem zWD {k:Nat} {c:List D} (h:Shp Tryz.prog k 29 c):∃d fs,c= [d]∧zX 12 (zK1 fs) d∧fs.length≤1048576∧∀f∈fs,f.Ok0:=by
 obtain⟨d,xs,j,e,hj,hs,_,hl,hx⟩:=zBu Tryz.underlying29 zRb h;obtain⟨l,rfl,hk⟩:=zAS fun y hy=>zaY (hx y hy);rw[List.length_map] at hl;exact⟨d,l,e,hs,hl,hk⟩
theorem zT6 {k:Nat} {c:List D} (h:Shp Tryz.prog k 31 c):∃d l,c= [d]∧zX 1 (zt l) d∧l.length≤1048576∧∀s∈l,s.length≤1048576:=by
 obtain⟨d,xs,j,e,hj,hs,_,hl,hx⟩:=zBu Tryz.underlying31 yu h;obtain⟨l,rfl,hk⟩:=zAS (f:=fun s:List UInt8=>[D.str s]) fun y hy=>qf Tryz.underlying9 (hx y hy);rw[List.length_map] at hl;exact⟨d,l,e,hs,hl,hk⟩
theorem zaZ {k:Nat} {c:List D} (h:Shp Tryz.prog k 51 c):∃n:Trm,c=n.cells∧True:=by
 obtain⟨j,_,hf⟩:=qM Tryz.underlying51 h;obtain⟨c1,r1,rfl,h1,hf⟩:=zN hf;obtain⟨c2,r2,rfl,h2,hf⟩:=zN hf;obtain rfl:=wa hf;obtain⟨s1,rfl,b1⟩:=qf Tryz.underlying9 h1;obtain⟨s2,rfl,b2⟩:=qf Tryz.underlying9 h2;exact⟨⟨s1,s2⟩,rfl,trivial⟩
theorem zaa {k:Nat} {c:List D} (h:Shp Tryz.prog k 168 c):∃a:Alt,c= [a.d]∧a.Sm:=by
 obtain⟨d,xs,j,e,hj,hs,_,hl,hx⟩:=zBu Tryz.underlying168 wi h;obtain⟨l,rfl,_⟩:=zAS fun y hy=>zaZ (hx y hy);rw[List.length_map] at hl;exact⟨⟨l,d⟩,e,hs,hl⟩
theorem zab {k:Nat} {c:List D} (h:Shp Tryz.prog k 33 c):∃ (y:Cho) (a b:D),c= [a,b]∧zNt y (.agg [a,b])∧y.Sm:=by
 obtain⟨j,_,hf⟩:=qM Tryz.underlying33 h;obtain⟨c1,r1,rfl,h1,hf⟩:=zN hf;obtain⟨c2,r2,rfl,h2,hf⟩:=zN hf;obtain rfl:=wa hf;obtain⟨d1,x1,j1,rfl,_,i1,_,b1,h1⟩:=zBu Tryz.underlying30 we h1;obtain⟨l1,rfl,k1⟩:=zAS fun y hy=>zaa (h1 y hy);obtain⟨d2,l2,rfl,i2,b2⟩:=zCM h2;rw[List.length_map] at b1;exact⟨⟨l1,l2⟩,d1,d2,rfl,⟨d1,d2,rfl,i1,i2⟩,b1,b2,k1⟩
theorem zac {k:Nat} {c:List D} (h:Shp Tryz.prog k 65 c):∃x:Con,c=x.cells∧x.Ok:=by
 obtain⟨j,_,hf⟩:=qM Tryz.underlying65 h;obtain⟨c1,r1,rfl,h1,hf⟩:=zN hf;obtain⟨c2,r2,rfl,h2,hf⟩:=zN hf;obtain⟨c3,r3,rfl,h3,hf⟩:=zN hf;obtain⟨c4,r4,rfl,h4,hf⟩:=zN hf;obtain⟨c5,r5,rfl,h5,hf⟩:=zN hf;obtain rfl:=wa hf;obtain⟨s1,rfl,b1⟩:=qf Tryz.underlying9 h1;obtain⟨⟨s,t1,t2,t3,t4⟩,rfl,_⟩:=zXp _ h2;obtain⟨d3,l3,rfl,i3,b3,k3⟩:=zT6 h3;obtain⟨d4,x4,j4,rfl,_,i4,_,b4,_⟩:=zBu Tryz.underlying63 zY1 h4;obtain⟨s5,rfl,b5⟩:=qf Tryz.underlying9 h5;exact⟨⟨s1,l3,_,_,_,_,d3,d4, .str s5⟩,rfl,i3,k3,b3⟩
theorem zT7 {k:Nat} {c:List D} (h:Shp Tryz.prog k 38 c):∃ (n:Cat) (fs:List Fac) (y:Cho) (l:List Con) (out:List UInt8) (ca cb ce cp x ta oa ld m1 m2 m3 m4:D),c= [ca,cb,ce,cp,x,ta,oa,ld, .str out,m1,m2,m3,m4]∧wR n (.agg [ca,cb,ce,cp])∧n.Sm∧zX 12 (zK1 fs) x∧fs.length≤1048576∧(∀f∈fs,f.Ok0)∧zNt y (.agg [ta,oa])∧y.Sm∧zX 8 (cons l) ld∧l.length≤1048576∧∀x∈l,x.Ok:=by
 obtain⟨j,_,hf⟩:=qM Tryz.underlying38 h;obtain⟨c1,r1,rfl,h1,hf⟩:=zN hf;obtain⟨c2,r2,rfl,h2,hf⟩:=zN hf;obtain⟨c3,r3,rfl,h3,hf⟩:=zN hf;obtain⟨c4,r4,rfl,h4,hf⟩:=zN hf;obtain⟨c5,r5,rfl,h5,hf⟩:=zN hf;obtain⟨c6,r6,rfl,h6,hf⟩:=zN hf;obtain rfl:=wa hf;obtain⟨n,⟨ca,cb,ce,cp,e1,q1,q2,q3,q4⟩,hs⟩:=zaX h1;cases e1;obtain⟨x,fs,rfl,hx,hl,hok⟩:=zWD h2;obtain⟨y,ta,oa,rfl,hy,hys⟩:=zab h3;obtain⟨ld,xs,j4,rfl,_,i4,_,b4,h4⟩:=zBu Tryz.underlying34 zWa h4;obtain⟨l,rfl,kl⟩:=zAS fun y hy=>zac (h4 y hy);rw[List.length_map] at b4;obtain⟨out,rfl,b5⟩:=qf Tryz.underlying9 h5;obtain⟨j6,_,hf⟩:=qM Tryz.underlying36 h6
 obtain⟨g1,r1,rfl,h1,hf⟩:=zN hf;obtain⟨g2,r2,rfl,h2,hf⟩:=zN hf;obtain⟨g3,r3,rfl,h3,hf⟩:=zN hf;obtain⟨g4,r4,rfl,h4,hf⟩:=zN hf;obtain rfl:=wa hf;obtain⟨m1,_,rfl,_⟩:=zCM h1;obtain⟨m2,_,rfl,_⟩:=zCM h2;obtain⟨m3,_,rfl,_⟩:=zCM h3;obtain⟨m4,_,rfl,_⟩:=zCM h4;exact⟨n,fs,y,l,out,ca,cb,ce,cp,x,ta,oa,ld,m1,m2,m3,m4,rfl,⟨ca,cb,ce,cp,rfl,q1,q2,q3,q4⟩,hs,hx,hl,hok,hy,hys,i4,b4,kl⟩
set_option maxRecDepth 100000
theorem zad {L:List Due} {d:D} (hd:zX 7 (L.map qz) d) {i:Nat} (hi:i<L.length):zR Tryz.prog 45 d (.int .i64 (i:Int))=some (.iptr (qz L[i]) 0):=zE hd zAr zBT (by simp[hi])
theorem zPZ {L:List Due} {d:D} (hd:zX 7 (L.map qz) d) (h:Heap):zAd Tryz.prog 45 d h=some (.int .i64 (L.length:Int)):=by rw[zP hd Tryz.underlying45,List.length_map]
section
variable {ca cb ce cp x ta oa ld n1 n2 n3 n4:D} {out:List UInt8}
end
theorem zQd {n:Note} (h:zw n=0):max (max (max n.ls.length n.ts.length) n.hs.length) n.cs.length≤1024:=by
 unfold zw at h;split at h
 ·exact absurd h (by decide)
 ·omega
theorem zF2 {c:Cat} {fs:List Fac} {y:Cho} {l:List Con} {out:List UInt8} (h:zD0 c fs y l out=0):yL c fs y true=0∧zw (mkN c l (zC5 (zDL c fs y) out))=0:=by
 have h0:zDz c fs y l out=0:=by
  cases q:(zDz c fs y l out==0) with
  |true=>simpa using q
  |false=>
   unfold zD0 at h;rw[q] at h
   have:zDz c fs y l out=0:=h;exact this
 refine⟨?_,?_⟩
 ·unfold zDz at h0;split at h0
  ·rename_i q;rw[h0] at q;exact absurd q (by decide)
  ·rename_i q;simpa using q
 ·unfold zD0 at h;rw[h0] at h;exact h
def fnd (c:Cat) (s:List UInt8):Lic:=match w7 c s with
 |some x=>x
 |none=>⟨[],[],0,[]⟩
theorem zWE (c:Cat) (s:List UInt8):∃b,zBx c s= .tuple [.agg [.str (fnd c s).name, .str (fnd c s).fam, .int .i64 (fnd c s).ver, .str (fnd c s).text], .bool b]:=by
 unfold zBx fnd;cases w7 c s with
 |none=>exact⟨_,rfl⟩
 |some x=>exact⟨_,rfl⟩
def zfD (c:Cat) (n:Note) (s:List UInt8):Bool:=(n.ls.zip n.ts).any fun p=>p.1==(fnd c s).name&&p.2==(fnd c s).text
def zhb (l:List Con) (n:Note) (comp:List UInt8):Bool:= !(zQZ l comp).any fun s=> !n.hs.any (· ==s)
def zWF (c:Cat) (l:List Con) (n:Note) (v:Due):Bool:=
 if(v.2.2.2.2.2.2==0)=true then zfD c n v.2.2.1
 else if(v.2.2.2.2.2.2==1)=true then zhb l n v.2.1
 else n.cs.any (· ==v.2.1)
theorem zQe {a1 a2 a3 a4:D} {l:List (List UInt8)} (hd:zX 1 (zt l) a3) (hl:l.length≤1048576) (s:List UInt8) (h:Heap):
  zA Tryz.prog 101 ([]++ [.str s]++ [.iptr [a1,a2,a3,a4] 0]) h fun r h'=>h'=h∧r= .bool (!l.any (· ==s)):=by
 have hcs:=fun h=>zDk hd hl s h;obtain⟨q1,q2,_⟩:=zY hd;show zA _ _ [.str s, .iptr [a1,a2,a3,a4] 0] _ _;refine zA.of_fn (g:=zOt) mix Tryz.func101 zdJ rfl rfl ?_;simp only[Tryz.f101,gJ]
 repeat' first|simp only[go_sem,zg1, *]|apply bc<;>intro hc|(refine zA.mono (hcs _) ?_;rintro r h ⟨hq,rfl⟩)
theorem zJZ {n:Note} {p:List UInt8×List UInt8→Bool} {i:Nat} (h:i<n.ls.length) (h2:i<n.ts.length) (hp:p (n.ls[i],n.ts[i])=true):(n.ls.zip n.ts).any p=true:=by
 refine List.any_eq_true.2 ⟨(n.ls[i],n.ts[i]),?_,hp⟩
 have:(n.ls.zip n.ts)[i]'(by rw[List.length_zip];omega)=(n.ls[i],n.ts[i]):=List.getElem_zip;rw[←this];exact List.getElem_mem _
theorem zQf {n:Note} {p:List UInt8×List UInt8→Bool} (hp:∀i (h:i<n.ls.length) (h2:i<n.ts.length),p (n.ls[i],n.ts[i])=false):(n.ls.zip n.ts).any p=false:=by
 rw[List.any_eq_false];intro x hx;obtain⟨i,hi,rfl⟩:=List.mem_iff_getElem.1 hx;rw[List.length_zip] at hi;rw[List.getElem_zip,hp i (by omega) (by omega)];decide
set_option maxHeartbeats 8000000 in
theorem zT8 {c:Cat} {d:D} (hc:wR c d) (hs:c.Sm) {l:List Con} {ld:D} (hl:zX 8 (cons l) ld) (hln:l.length≤1048576) (hlo:∀x∈l,x.Ok) {n:Note} {nd:D} (hn:zBw n nd) (hsm:n.ls.length≤1048576∧n.ts.length≤1048576∧n.hs.length≤1048576∧n.cs.length≤1048576) (v:Due) (g:Heap):
  zA Tryz.prog 47 [d,ld,nd, .agg (qz v)] g fun r h'=>h'=g∧r= .bool (zWF c l n v):=by
 refine zA.pure (by kernel_rfl) fun hok'=>zA.strip ?_;refine zA.post fun Q hQ=> ?_;have hfin:∀ {h':Heap},Ext g h'→∀ {b:Bool},zWF c l n v=b→Q (.bool b) h':=fun {h'} hE {b} hb=>hQ _ _ ⟨hE,trivial,by rw[hb];rfl⟩;have hfd:=fun k h=>zME hc hs k h;have hho:=fun comp h=>zH6 hl hln hlo comp h;obtain⟨a,b,e,p,rfl,_⟩:=hc;obtain⟨a1,a2,a3,a4,rfl,ha1,ha2,ha3,ha4⟩:=hn;obtain⟨s1,s2,s3,s4⟩:=hsm;have hv4:∀a b c e:D,ze true 4 [a,b,c,e] 0=some (.agg [a,b,c,e]):=fun a b c e=>zB rfl (by omega);have t1:=yA ha1;have t2:=yA ha2;have w1:(qz v)[1]? =some (.str v.2.1):=rfl;have w2:(qz v)[2]? =some (.str v.2.2.1):=rfl
 have w5:(qz v)[5]? =some (.int .i64 v.2.2.2.2.2.1):=rfl;have w6:(qz v)[6]? =some (.int .i64 v.2.2.2.2.2.2):=rfl;clear hQ;unfold zWF at hfin;generalize qz v=vc at *
 cases c0:(v.2.2.2.2.2.2==0) with
 |true=>
  rw[c0] at hfin;have c0:v.2.2.2.2.2.2=0:=by simpa using c0
  rw[c0] at w6;obtain⟨fb,hfb⟩:=zWE c v.2.2.1;have hfs:=hfd v.2.2.1;rw[hfb] at hfs;have hfin:∀ {h':Heap},Ext g h'→∀ {b:Bool},zfD c n v.2.2.1=b→Q (.bool b) h':=fun {h'} hE {b} hb=>hfin hE hb;unfold zfD at hfin;generalize fnd c v.2.2.1=k at *
  have hst10:zW Tryz.prog 56 (.ptr g.next 0) (.agg [.str k.name, .str k.fam, .int .i64 k.ver, .str k.text]) (g.new g.next (.row zEg))=some (g.new g.next (.row [.str k.name, .str k.fam, .int .i64 k.ver, .str k.text])):=zg zDS (by omega) rfl rfl rfl;obtain⟨G,hG,hGn,g10,hE⟩:=qx g (.row [.str k.name, .str k.fam, .int .i64 k.ver, .str k.text]);rw[hG] at hst10;have hfin:=fun {b} =>hfin hE (b:=b);clear hfd hho hG hE hGn hl hlo ha3 ha4 hfb;refine zA.of_fn (g:=zPz) mix Tryz.func47 zej rfl rfl ?_;simp only[Tryz.f47,gJ]
  repeat' first|simp only[go_sem,zP0, *]|apply bc<;>intro hc|(refine zA.mono (hfs _) ?_;rintro r h ⟨hq,rfl⟩)
  refine zD (fun i fr h'=>fr 6= .iptr [a1,a2,a3,a4] 0∧fr 9= .ptr g.next 0∧fr 28=a1∧fr 29= .int .i64 (n.ls.length:Int)∧fr 30= .int .i64 (i:Int)∧h'=G∧∀j (h1:j<n.ls.length) (h2:j<n.ts.length),j<i→(n.ls[j]==k.name&&n.ts[j]==k.text)=false) n.ls.length (by omega) ?_ ?_ ?_
  ·simp only[go_sem,zP0,true_and,and_true,Int.ofNat_zero];exact fun j h1 h2 h0=>by omega
  ·rintro i fr h5 hlt ec ew ⟨f6,f9,f28,f29,f30,rfl,hj⟩;have b1:=yz ha1 hlt;have hT:∀ (h2:i<n.ts.length),(n.ls[i]==k.name&&n.ts[i]==k.text)=true→Q (.bool true) h5:=fun h2 q=>hfin (zJZ hlt h2 q);have hN:(∀ (h2:i<n.ts.length),(n.ls[i]==k.name&&n.ts[i]==k.text)=false)→∀j (h1:j<n.ls.length) (h2:j<n.ts.length),j<i+1→(n.ls[j]==k.name&&n.ts[j]==k.text)=false:=fun q j h1 h2 h0=>by
    rcases Nat.lt_succ_iff_lt_or_eq.1 h0 with h|rfl
    ·exact hj j h1 h2 h
    ·exact q h2
   clear hfin hfs hj hv4 w1 w2 w5 w6 hst10;cases e1:(n.ls[i]==k.name) with
   |false=>
    have hN2:=hN fun h2=>by rw[e1];rfl
    clear hT hN;generalize n.ls[i]=s at *
    repeat' first|simp only[go_sem,zP0, *]|apply bc<;>intro hc
    refine zi (by kernel_rfl) ?_
    repeat' first|simp only[go_sem,zP0, *]|apply bc<;>intro hc
    exact hN2
   |true=>
    cases e2:decide ((i:Int)<(n.ts.length:Int)) with
    |false=>
     have hN2:=hN fun h2=>by have:=of_decide_eq_false e2;omega
     clear hT hN;generalize n.ls[i]=s at *
     repeat' first|simp only[go_sem,zP0, *]|apply bc<;>intro hc
     refine zi (by kernel_rfl) ?_
     repeat' first|simp only[go_sem,zP0, *]|apply bc<;>intro hc
     exact hN2
    |true=>
     have hti:i<n.ts.length:=by have:=of_decide_eq_true e2;omega
     have b2:=yz ha2 hti;cases e3:(n.ts[i]==k.text) with
     |false=>
      have hN2:=hN fun h2=>by rw[e3,Bool.and_false]
      clear hT hN;generalize n.ls[i]=s at *
      generalize n.ts[i]=s2 at *
      repeat' first|simp only[go_sem,zP0, *]|apply bc<;>intro hc
      refine zi (by kernel_rfl) ?_
      repeat' first|simp only[go_sem,zP0, *]|apply bc<;>intro hc
      exact hN2
     |true=>
      have hT:=hT hti (by rw[e1,e3];rfl);clear hN;generalize n.ls[i]=s at *
      generalize n.ts[i]=s2 at *
      repeat' first|simp only[go_sem,zP0, *]|apply bc<;>intro hc
      refine zi (by kernel_rfl) ?_
      repeat' first|simp only[go_sem,zP0, *]|apply bc<;>intro hc
  ·rintro fr h5 ec ⟨f6,f9,f28,f29,f30,rfl,hj⟩;have hT:=hfin (zQf (p:=fun p=>p.1==k.name&&p.2==k.text) fun i h1 h2=>hj i h1 h2 h1);clear hfin hj
   repeat' first|simp only[go_sem,zP0, *]|apply bc<;>intro hc
 |false=>
  rw[c0] at hfin;simp only[Bool.false_eq_true,if_false] at hfin;obtain⟨m,hm⟩:∃m,v.2.2.2.2.2.2=m:=⟨_,rfl⟩;rw[hm] at w6 hfin c0;clear hm;cases c1:(m==1) with
  |true=>
   rw[c1] at hfin;have c1:m=1:=by simpa using c1
   subst c1;have hfin:=hfin (Ext.refl g) rfl;simp only[if_true] at hfin;unfold zhb at hfin;have hhv:=hho v.2.1;have hh:∃hd b,zMc l v.2.1= .tuple [hd, .bool b]∧zX 1 (zt (zQZ l v.2.1)) hd∧(zQZ l v.2.1).length≤1048576:=by
    unfold zMc zQZ;cases e:zDy l v.2.1 with
    |none=>exact⟨_,_,rfl,zX.nil,Nat.zero_le _⟩
    |some k=>
     have hk:=hlo k (List.mem_of_find?_eq_some e);exact⟨_,_,rfl,hk.sl,hk.len⟩
   obtain⟨hd,hb,hh1,hh2,hh3⟩:=hh;rw[hh1] at hhv;have hcf:=fun h=>zCm hh2 hh3 (g:=101) (fst:=[]) (cap:=[.iptr [a1,a2,a3,a4] 0]) (p:=fun s=> !n.hs.any (· ==s)) (fun s _ h=>zQe ha3 s3 s h) h;obtain⟨q1,q2,_⟩:=zY hh2;generalize zQZ l v.2.1=H at *
   clear hfd hho hl hlo hh1 hh2 hh3 ha1 ha2 ha3 ha4;refine zA.of_fn (g:=zPz) mix Tryz.func47 zej rfl rfl ?_;simp only[Tryz.f47,gJ]
   repeat' first|simp only[go_sem,zP0, *]|apply bc<;>intro hc|(refine zA.mono (hhv _) ?_;rintro r h ⟨hq,rfl⟩)|(refine zA.mono (hcf _) ?_;rintro r h ⟨hq2,rfl⟩)
  |false=>
   rw[c1] at hfin;have hfin:=hfin (Ext.refl g) rfl;simp only[Bool.false_eq_true,if_false] at hfin;have hcs:=fun h=>zDk ha4 s4 v.2.1 h;obtain⟨q1,q2,_⟩:=zY ha4;clear hfd hho hl hlo ha1 ha2 ha3 ha4;refine zA.of_fn (g:=zPz) mix Tryz.func47 zej rfl rfl ?_;simp only[Tryz.f47,gJ]
   repeat' first|simp only[go_sem,zP0, *]|apply bc<;>intro hc|(refine zA.mono (hcs _) ?_;rintro r h ⟨hq,rfl⟩)
def zQm (c:Cat) (l:List Con) (n:Note) (F:List Due):List Due:=F.filter fun v=> !zWF c l n v
theorem zT9 {c:Cat} {l:List Con} {n:Note} {F:List Due} {i:Nat} (h:i<F.length):zQm c l n (F.take (i+1))=zQm c l n (F.take i)++if zWF c l n F[i]=true then [] else [F[i]]:=by
 unfold zQm;rw[List.take_succ_eq_append_getElem h,List.filter_append];cases e:zWF c l n F[i] with
 |true=>simp[e]
 |false=>simp[e]
set_option maxHeartbeats 8000000 in
theorem zUA {c:Cat} {fs:List Fac} {y:Cho} {d x yd:D} (I:CIn c fs y d x yd) {l:List Con} {ld:D} (hl:zX 8 (cons l) ld) (hln:l.length≤1048576) (hlo:∀x∈l,x.Ok) (out:List UInt8) {n:Note} {nd:D} (hn:zBw n nd) (hsm:n.ls.length≤1048576∧n.ts.length≤1048576∧n.hs.length≤1048576∧n.cs.length≤1048576) (g:Heap):
  zA Tryz.prog 22 [d,x,yd,ld, .str out,nd] g fun r h'=>h'=g∧∃r0,r= .tuple [r0, .int .i64 (zDz c fs y l out)]∧(zDz c fs y l out=0→Fin 7 ((zQm c l n (zC5 (zDL c fs y) out)).map qz) r0):=by
 refine zA.pure (by kernel_rfl) fun hok'=>zA.strip ?_;refine zA.post fun Q hQ=> ?_;have hnd:=fun h=>zJX I hl hln hlo out h;have hff:=fun v h=>zT8 I.cat I.sm hl hln hlo hn hsm v h;have hdl:=zN0 I;have hIy:=I.ysm;obtain⟨a,b,e,p,rfl,_⟩:=I.cat;obtain⟨ta,oa,rfl,_,_⟩:=I.cho;obtain⟨a1,a2,a3,a4,rfl,ha1,ha2,ha3,ha4⟩:=hn;have hv4:∀a b c e:D,ze true 4 [a,b,c,e] 0=some (.agg [a,b,c,e]):=fun a b c e=>zB rfl (by omega);have hv2:ze true 2 [ta,oa] 0=some (.agg [ta,oa]):=zB rfl (by omega);refine zA.of_fn (g:=zUl) mix Tryz.func22 ziQ rfl rfl ?_;simp only[Tryz.f22,gJ];cases he:(zDz c fs y l out==0) with
 |false=>
  have hne:zDz c fs y l out≠0:=by simpa using he
  have hfin:Q (.tuple [.nilsl, .int .i64 (zDz c fs y l out)]) g:=hQ _ _ ⟨Ext.refl g,⟨trivial,trivial,trivial⟩,_,rfl,fun q=>absurd q hne⟩;clear hQ hdl hff I ha1 ha2 ha3 ha4
  repeat' first|simp only[go_sem,zWy, *]|apply bc<;>intro hc
  refine(hnd _).mono ?_;rintro r h1 ⟨hq,l0,rfl,_,hz⟩;have hz:=hz hne;subst hz hq
  repeat' first|simp only[go_sem,zWy, *]|apply bc<;>intro hc
 |true=>
  have h0:zDz c fs y l out=0:=by simpa using he
  have hch:yL c fs y true=0:=by
   unfold zDz at h0;split at h0
   ·rename_i q;rw[h0] at q;exact absurd q (by decide)
   ·rename_i q;simpa using q
  have hL:=hdl hch;have hFl:=zKu (zDL c fs y) out;rw[h0] at hnd he
  repeat' first|simp only[go_sem,zWy, *]|apply bc<;>intro hc
  refine(hnd _).mono ?_;rintro r h1 ⟨hq,l0,rfl,hF,_⟩;subst hq;have hls:=(hF rfl).isSl;obtain⟨F,hFF⟩:∃F,zC5 (zDL c fs y) out=F:=⟨_,rfl⟩;rw[hFF] at hls hFl;have hFl:F.length≤33554432:=Nat.le_trans hFl hL;have hll:=zPZ hls;have hQf:∀ {d0:D} {h':Heap},Own h1 h' 7 ((zQm c l n (F.take F.length)).map qz) d0→Q (.tuple [d0, .int .i64 0]) h':=fun {d0 h'} k1=>by
   rw[List.take_length] at k1;obtain⟨f1,f2,f3⟩:=k1.fin (zMd _);exact hQ _ _ ⟨f1,⟨f2,trivial,trivial⟩,yC d0,by rw[h0];rfl,fun _=>by rw[hFF];exact f3⟩
  have hN0:Own h1 h1 7 ((zQm c l n (F.take 0)).map qz) .nilsl:=Own.start (Ext.refl h1) 7;clear hQ hnd hF hdl hL hFF h0 hch I ha1 ha2 ha3 ha4
  repeat' first|simp only[go_sem,zWy, *]|apply bc<;>intro hc
  refine zD (fun i fr h=>fr 3=ld∧fr 6= .iptr [a,b,e,p] 0∧fr 11= .iptr [a1,a2,a3,a4] 0∧fr 31=l0∧fr 32= .int .i64 (F.length:Int)∧fr 33= .int .i64 (i:Int)∧Own h1 h 7 ((zQm c l n (F.take i)).map qz) (fr 16)) F.length (by omega) ?_ ?_ ?_
  ·simp only[go_sem,zWy,true_and,and_true,Int.ofNat_zero,hN0]
  ·clear hN0 hQf;rintro i fr h2 hlt ec ew ⟨f3,f6,f11,f31,f32,f33,hN⟩;obtain⟨d0,hd0⟩:∃d0,fr 16=d0:=⟨_,rfl⟩;rw[hd0] at hN;have a1':=zad hls hlt;have hns:=zT9 (c:=c) (l:=l) (n:=n) hlt;have hnl:(zQm c l n (F.take i)).length≤i:=Nat.le_trans (List.length_filter_le _ _) (by rw[List.length_take];omega);generalize F[i]=v at *
   have hvD:ze true 7 (qz v) 0=some (.agg (qz v)):=zB rfl (by omega);have hst3:zW Tryz.prog 53 (.ptr h2.next 0) (.agg (qz v)) (h2.new h2.next (.row [.str [], .str [], .str [], .str [], .int .i64 0, .int .i64 0, .int .i64 0]))=some (h2.new h2.next (.row (qz v))):=zg zBT (by omega) rfl rfl rfl;obtain⟨G,hG,hGn,q1,hE⟩:=qx h2 (.row (qz v));rw[hG] at hst3;have hOG:=hN.ext hE;have hfv:=hff v
   obtain⟨d',h6,va,hO6,_,_⟩:=hOG.app1 (P:=Tryz.prog) (t:=45) (tk:= .full) (ys:=[qz v]) zAr zNA zBT (by omega) (fun y hy=>by rw[List.mem_singleton.1 hy];rfl) (by simp) (by rw[zHJ,List.length_map,List.length_singleton];unfold lim;omega) (by rw[List.length_map,List.length_singleton];unfold lim;omega);rw[hGn] at va;have hbs1:∀nid h,zS Tryz.prog false nid 45 1 [(0, .agg (qz v))] h=some (.sl 7 [qz v] .full,h):=fun nid h=>yR zAr zGX zBT rfl rfl (by omega) (by omega) rfl rfl;cases hb:zWF c l n v with
   |true=>
    rw[hb] at hfv;have hfin:Own h1 G 7 ((zQm c l n (F.take (i+1))).map qz) d0:=by rw[hns,if_pos hb,List.append_nil];exact hOG
    clear hns hnl hN hOG hO6 va hE hG hls hff hbs1
    repeat' first|simp only[go_sem,zWy, *]|apply bc<;>intro hc|(refine zA.mono (hfv _) ?_;rintro r h ⟨hq,rfl⟩)
   |false=>
    rw[hb] at hfv;have hfin:Own h1 h6 7 ((zQm c l n (F.take (i+1))).map qz) d':=by rw[hns,if_neg (by rw[hb];decide),List.map_append];exact hO6
    clear hns hnl hN hOG hO6 hE hG hls hff
    repeat' first|simp only[go_sem,zWy, *]|apply bc<;>intro hc|(refine zA.mono (hfv _) ?_;rintro r h ⟨hq,rfl⟩)
  ·clear hN0;rintro fr h2 ec ⟨f3,f6,f11,f31,f32,f33,hN⟩;have hfin:=hQf hN;clear hQf hN
   repeat' first|simp only[go_sem,zWy, *]|apply bc<;>intro hc
section
variable {f:FuncId} {ac:List D} {h:Heap} {Q:D→Heap→Prop} {A B:Nat} {xa xb:List (List UInt8)} {ra rb:List D} {a1 a2 a3 a4:D}
end
structure MkP (c:Cat) (l:List Con) (out:List UInt8) (F:List Due):Prop where
 lic:∀s∈zGm F,∃x∈c.ls,w7 c s=some x∧x.name=s∧s.length≤1048576
 ok:∀v∈F,okN out v=true
section
variable {c:Cat} {l:List Con} {out:List UInt8} {F:List Due} (P:MkP c l out F)
include P
omit P in
omit P in
end
theorem zH7 {e:Nat→Int} {l:List (List UInt8)} (h:Inc l) (he:∀i,i<l.length→e i=0):zAh e l=0:=zAO.2 fun i hi=>by
 unfold zBJ;rw[if_neg (by rw[he i hi];simp),if_neg];rintro⟨h0,hle⟩;rw[wJ hi,wJ (show i-1<l.length by omega)] at hle;have hp:=List.pairwise_iff_getElem.1 h (i-1) i (by omega) hi (by omega);unfold leS at hle;rw[zFK,Bool.or_eq_true,decide_eq_true_eq,beq_iff_eq] at hle;rcases hle with q|q
 ·exact zEb _ (zFu hp q)
 ·rw[q] at hp;exact zEb _ hp
theorem zH8 {f:List UInt8→List UInt8} {l:List (List UInt8)} {k v:List UInt8} (h:(k,v)∈l.zip (l.map f)):k∈l∧v=f k:=by
 obtain⟨i,hi,e⟩:=List.mem_iff_getElem.1 h;rw[List.getElem_zip,Prod.mk.injEq] at e;obtain⟨rfl,rfl⟩:=e;exact⟨List.getElem_mem _,List.getElem_map _⟩
def MG (c:Cat) (a b:Note):Note:=⟨zV (a.ls++b.ls),(zV (a.ls++b.ls)).map (zFZ c),zV (a.hs++b.hs),zV (a.cs++b.cs)⟩
section
variable {c:Cat} {a b:Note} (ha:zw a=0) (hb:zw b=0) (ta:a.ts=a.ls.map (zFZ c)) (tb:b.ts=b.ls.map (zFZ c))
include ha hb ta tb
theorem zFa {k v:List UInt8} (h:(k,v)∈zDo a++zDo b):v=zFZ c k:=by
 unfold zDo at h;rw[ta,tb] at h;rcases List.mem_append.1 h with q|q
 ·exact(zH8 q).2
 ·exact(zH8 q).2
theorem zWG:zDW a b=if zw (MG c a b)≠0 then(.zero,zw (MG c a b)) else(MG c a b,0):=by
 obtain⟨m,hm⟩:=zI9 (ps:=zDo a++zDo b) fun k v w h1 h2=>by rw[zFa ha hb ta tb h1,zFa ha hb ta tb h2]
 obtain⟨_,_,_,la,_⟩:=zAU ha;obtain⟨_,_,_,lb,_⟩:=zAU hb;have e:qY a b m=MG c a b:=by
  unfold qY MG;congr 1;refine List.map_congr_left fun s hs=> ?_;obtain⟨v,hv⟩:=zDp la lb hs;rw[(zCH hm).1 s v hv,zFa ha hb ta tb hv];rfl
 rw[zO5 ha hb hm,e]
theorem zWH:zw (MG c a b)=0∨zw (MG c a b)=10:=by
 by_cases h10:max (max (max (MG c a b).ls.length (MG c a b).ts.length) (MG c a b).hs.length) (MG c a b).cs.length>1024
 ·right;unfold zw;rw[if_pos h10]
 ·left;have hz:∀k∈zV (a.ls++b.ls),ye k=true∧qN (zFZ c k)=0:=fun k hk=>by
   rcases List.mem_append.1 (zl.1 hk) with q|q
   ·obtain⟨i,hi,rfl⟩:=List.mem_iff_getElem.1 q;have:=zEd ha (a.ls[i],zFZ c a.ls[i]) (by
     rw[ta,List.mem_iff_getElem];exact⟨i,by rw[List.length_zip,List.length_map];omega,by rw[List.getElem_zip,List.getElem_map]⟩)
    exact this
   ·obtain⟨i,hi,rfl⟩:=List.mem_iff_getElem.1 q;have:=zEd hb (b.ls[i],zFZ c b.ls[i]) (by
     rw[tb,List.mem_iff_getElem];exact⟨i,by rw[List.length_zip,List.length_map];omega,by rw[List.getElem_zip,List.getElem_map]⟩)
    exact this
  have e1:zAh (zFO (MG c a b)) (MG c a b).ls=0:=zH7 (zDn _) fun i hi=>by
   unfold zFO;have hi2:i<(MG c a b).ts.length:=by show i<((zV (a.ls++b.ls)).map (zFZ c)).length;rw[List.length_map];exact hi
   rw[wJ hi,wJ hi2];have e2:(MG c a b).ts[i]=zFZ c ((zV (a.ls++b.ls))[i]'hi):=List.getElem_map _;obtain⟨q1,q2⟩:=hz ((zV (a.ls++b.ls))[i]'hi) (List.getElem_mem _);rw[e2,q2];have q1:ye (MG c a b).ls[i]=true:=q1;rw[q1];rfl
  have e3:zAh (zCR (MG c a b)) (MG c a b).hs=0:=zH7 (zDn _) fun i hi=>by
   unfold zCR;rw[wJ hi]
   have:wu ((zV (a.hs++b.hs))[i]'hi)=true:=by
    rcases List.mem_append.1 (zl.1 (List.getElem_mem hi)) with q|q
    ·exact zFQ ha _ q
    ·exact zFQ hb _ q
   have this:wu (MG c a b).hs[i]=true:=this;rw[this];rfl
  have e4:zAh (zAt (MG c a b)) (MG c a b).cs=0:=zH7 (zDn _) fun i hi=>by
   unfold zAt;rw[wJ hi]
   have:zGC ((zV (a.cs++b.cs))[i]'hi)=0:=by
    rcases List.mem_append.1 (zl.1 (List.getElem_mem hi)) with q|q
    ·exact zHe ha _ q
    ·exact zHe hb _ q
   exact this
  unfold zw;rw[if_neg h10,if_neg (by simp[MG]),if_neg (by rw[e1];simp),if_neg (by rw[e3];simp)];exact e4
end
theorem zXq {c:Cat} {l:List Con} {out:List UInt8} {F:List Due} (P:MkP c l out F) {M:Note} (h1:∀s∈zGm F,s∈M.ls) (h2:M.ts=M.ls.map (zFZ c)) (h3:∀s∈zJY l F,s∈M.hs) (h4:∀s∈zK2 F,s∈M.cs):zQm c l M F= []:=by
 refine List.filter_eq_nil_iff.2 fun v hv=> ?_;have hon:=P.ok v hv;unfold okN at hon;simp only[Bool.and_eq_true,Bool.or_eq_true,beq_iff_eq] at hon;obtain⟨_,hd⟩:=hon
 have:zWF c l M v=true:=by
  unfold zWF;rcases hd with(hd|hd)|hd
  ·rw[hd,if_pos (by decide)];have hm:v.2.2.1∈zGm F:=List.mem_map.2 ⟨v,List.mem_filter.2 ⟨hv,by rw[hd];rfl⟩,rfl⟩;obtain⟨k,_,hk,hn,_⟩:=P.lic _ hm;obtain⟨i,hi,e⟩:=List.mem_iff_getElem.1 (h1 _ hm);have hf:fnd c v.2.2.1=k:=by unfold fnd;rw[hk]
   have hi2:i<M.ts.length:=by rw[h2,List.length_map];exact hi
   have e2:M.ts[i]=k.text:=by
    have:M.ts[i]? =some (zFZ c v.2.2.1):=by rw[h2,List.getElem?_map,List.getElem?_eq_getElem hi,e];rfl
    rw[List.getElem?_eq_getElem hi2] at this;rw[Option.some.inj this];unfold zFZ;rw[hk]
   unfold zfD;rw[hf];refine zJZ hi hi2 ?_;show(M.ls[i]==k.name&&M.ts[i]==k.text)=true;rw[e2,e,hn];simp
  ·rw[hd,if_neg (by decide),if_pos (by decide)];unfold zhb
   have:((zQZ l v.2.1).any fun s=> !M.hs.any (· ==s))=false:=by
    rw[List.any_eq_false];intro s hs
    have:M.hs.any (· ==s)=true:=List.any_eq_true.2 ⟨s,h3 s (List.mem_flatMap.2 ⟨v,List.mem_filter.2 ⟨hv,by rw[hd];rfl⟩,hs⟩),by simp⟩;rw[this];decide
   rw[this];rfl
  ·rw[hd,if_neg (by decide),if_neg (by decide)];exact List.any_eq_true.2 ⟨_,h4 _ (List.mem_map.2 ⟨v,List.mem_filter.2 ⟨hv,by rw[hd];rfl⟩,rfl⟩),by simp⟩
 rw[this];decide
theorem zWI {s sub:List UInt8} (hs:s.length≤16777216) (h2:2≤sub.length) (h:Heap):zA Tryz.prog 24 [.str s, .str sub] h fun r h'=>h'=h∧r= .int .i64 (Lib.count s sub:Nat):=by
 refine(zA.of_lib3 (by kernel_rfl) (d:= .int .i64 (Lib.count s sub:Nat)) (fun M ρ va w himm hgw hr=> ?_) h).mono fun a b hab=>⟨hab.2,hab.1⟩;obtain⟨b1,b2,rfl,e1,e2,_,_⟩:=zGZ hr;obtain⟨m,hm⟩:=hgw.2 (Tryz.lays138_ren.g 1) (by kernel_rfl);have n1:b1.size=s.length:=by rw[←e1,Array.length_toList];rfl
 have n2:b2.size=sub.length:=by rw[←e2,Array.length_toList];rfl
 refine(Any.strings_Count Tryz.lays138 b1 b2 m w (by omega) hm (by omega)).mono fun e w' hq=> ?_;obtain⟨rfl,rfl⟩:=hq;have e3:Lib.countB b1 b2=Lib.count s sub:=by rw[←e1,←e2]
 refine⟨_,rfl,Bel.refl _ _,fun M' ρ'=> ?_⟩;have hle:=Lib.count_le s sub;rw[e3];simp only[rel,true_and];rw[wY];simp[IntKind.min,IntKind.max,IntKind.signed,IntKind.bits];omega
theorem zeC {c:Cat} {fs:List Fac} {y:Cho} {l:List Con} {out:List UInt8} (hc:wk c=0) (hs:c.Sm) (hok:∀f∈fs,f.Ok) (hlo:∀x∈l,x.Ok) (h:zw (mkN c l (zC5 (zDL c fs y) out))=0):(mkN c l (zC5 (zDL c fs y) out)).Sm∧MkP c l out (zC5 (zDL c fs y) out):=by
 have hsm:=zT4 (y:=y) (out:=out) hc hs hok hlo;have hl:=zQd h;refine⟨⟨⟨by omega,fun s q=> ?_⟩,⟨by omega,fun s q=> ?_⟩,⟨by omega,fun s q=>hsm.2.1 s (zl.1 q)⟩,⟨by omega,fun s q=>hsm.2.2 s (zl.1 q)⟩⟩,hsm.1,fun v hv=>(List.mem_filter.1 hv).2⟩
 ·obtain⟨_,_,_,_,q⟩:=hsm.1 s (zl.1 q);exact q
 ·obtain⟨s0,h0,rfl⟩:=List.mem_map.1 q;obtain⟨k,hkm,hk,_,_⟩:=hsm.1 s0 (zl.1 h0);unfold zFZ;rw[hk];exact(hs.ls.2 k hkm).2.2
theorem zhc {c:Cat} {a b:Note} (ha:zw a=0) (hb:zw b=0) (ta:a.ts=a.ls.map (zFZ c)) (tb:b.ts=b.ls.map (zFZ c)) (sa:a.Sm) (sb:b.Sm):(MG c a b).Sm:=by
 obtain⟨m,hm⟩:=zI9 (ps:=zDo a++zDo b) fun k v w h1 h2=>by rw[zFa ha hb ta tb h1,zFa ha hb ta tb h2]
 have:=zL2 sa sb ha hb hm;obtain⟨_,_,_,la,_⟩:=zAU ha;obtain⟨_,_,_,lb,_⟩:=zAU hb;have e:qY a b m=MG c a b:=by
  unfold qY MG;congr 1;refine List.map_congr_left fun s hs=> ?_;obtain⟨v,hv⟩:=zDp la lb hs;rw[(zCH hm).1 s v hv,zFa ha hb ta tb hv];rfl
 rw[←e];exact this
theorem zMe {c:Cat} {fs:List Fac} {y:Cho} {l:List Con} {out:List UInt8} (h:zD0 c fs y l out=0):zDz c fs y l out=0:=by
 cases q:(zDz c fs y l out==0) with
 |true=>simpa using q
 |false=>
  unfold zD0 at h;rw[q] at h;exact h
set_option maxHeartbeats 32000000 in
theorem zIa {c:Cat} {ca cb ce cp x ta oa ld m1 m2 m3 m4:D} (hc:wR c (.agg [ca,cb,ce,cp])) (hs:c.Sm) {fs:List Fac} (hx:zX 12 (zK1 fs) x) (hln:fs.length≤1048576) (hok:∀f∈fs,f.Ok0) {y:Cho} (hy:zNt y (.agg [ta,oa])) (hys:y.Sm) {l:List Con} (hl:zX 8 (cons l) ld) (hn:l.length≤1048576) (hlo:∀x∈l,x.Ok) (out other:List UInt8) (g:Heap):
  zA Tryz.prog 4 [.agg [ca,cb,ce,cp,x,ta,oa,ld, .str out,m1,m2,m3,m4], .str other] g fun r _=>r= .bool true:=by
 refine zA.post fun Q hQ=> ?_;have hT:∀h,Q (.bool true) h:=fun h=>hQ _ _ rfl;have haw:=zGD;have hfw:=fun h=>zaS hc hs hx hln hok hy hys hl hn hlo out h;have p0:ze true 4 [ca,cb,ce,cp,x,ta,oa,ld, .str out,m1,m2,m3,m4] 0=some (.agg [ca,cb,ce,cp]):=by simp[ze]
 have p5:ze true 2 [ca,cb,ce,cp,x,ta,oa,ld, .str out,m1,m2,m3,m4] 5=some (.agg [ta,oa]):=by simp[ze]
 have hv4:∀a b c e:D,ze true 4 [a,b,c,e] 0=some (.agg [a,b,c,e]):=fun a b c e=>zB rfl (by omega);have hz:∀h,zAd Tryz.prog 9 (.str other) h=some (.int .i64 other.length):=fun h=>z7 Tryz.underlying9;clear hQ;refine zA.of_fn (g:=zfo) mix Tryz.func4 ok4 rfl rfl ?_;simp only[Tryz.f4,gJ]
 repeat' first|simp only[go_sem,mu4, *]|apply bc<;>intro hc|(refine zA.mono (haw _) ?_;rintro r h ⟨rfl,hq⟩)
 refine(hfw _).mono ?_;rintro r h ⟨hq,b,rfl,hF⟩;subst hq;clear haw hfw;cases b with
 |false=>
  clear hF
  repeat' first|simp only[go_sem,mu4, *]|apply bc<;>intro hc
 |true=>
 cases d0:decide ((other.length:Int)>300) with
 |true=>
  clear hF
  repeat' first|simp only[go_sem,mu4, *]|apply bc<;>intro hc
 |false=>
 obtain⟨hF,h25⟩:=hF rfl;have hok1:∀f∈fs,f.Ok:=fun f hf=>(hok f hf).ok (hF.2 f hf);have I:CIn c fs y (.agg [ca,cb,ce,cp]) x (.agg [ta,oa]):=⟨hc,hs,hx,hln,hF.1.1,hok1,hy,hys⟩;have hmk:=fun h=>zXn I hl hn hlo h25 out h;have hmk2:=fun h=>zXn I hl hn hlo h25 other h;clear hF h25;obtain⟨N1,hN1⟩:∃N,zKv c fs y l out=N:=⟨_,rfl⟩;obtain⟨N2,hN2⟩:∃N,zKv c fs y l other=N:=⟨_,rfl⟩;obtain⟨me1,hme1⟩:∃e,zD0 c fs y l out=e:=⟨_,rfl⟩;obtain⟨me2,hme2⟩:∃e,zD0 c fs y l other=e:=⟨_,rfl⟩;rw[hN1,hme1] at hmk;rw[hN2,hme2] at hmk2
 repeat' first|simp only[go_sem,mu4, *]|apply bc<;>intro hc
 refine(hmk _).mono ?_;rintro r h2 ⟨hq,r0,rfl,⟨a1,a2,a3,a4,rfl,ha1,ha2,ha3,ha4⟩,_⟩;subst hq;clear hmk;have hstN:zW Tryz.prog 36 (.ptr h2.next 0) (.agg [a1,a2,a3,a4]) (h2.new h2.next (.row nl4))=some (h2.new h2.next (.row [a1,a2,a3,a4])):=zg zBE (by omega) rfl rfl (by show(a1.flat&&(a2.flat&&(a3.flat&&(a4.flat&&true))))=true;rw[(zY ha1).2.2,(zY ha2).2.2,(zY ha3).2.2,(zY ha4).2.2];rfl);obtain⟨n0,hn0⟩:∃n,h2.next=n:=⟨_,rfl⟩;obtain⟨G0,eG0,xG0,r0,k0⟩:=qx h2 (.row [a1,a2,a3,a4]);rw[hn0] at hstN eG0 xG0 r0;rw[eG0] at hstN;obtain⟨n1,hn1⟩:∃n,G0.next=n:=⟨_,rfl⟩;have l01:n0<n1:=by omega
 clear eG0 xG0 k0
 repeat' first|simp only[go_sem,mu4, *]|apply bc<;>intro hc
 refine(hmk2 _).mono ?_;rintro r h3 ⟨hq,s0,rfl,⟨b1,b2,b3,b4,rfl,hb1,hb2,hb3,hb4⟩,_⟩;subst hq;clear hmk2;have hstM:zW Tryz.prog 36 (.ptr h3.next 0) (.agg [b1,b2,b3,b4]) (h3.new h3.next (.row nl4))=some (h3.new h3.next (.row [b1,b2,b3,b4])):=zg zBE (by omega) rfl rfl (by show(b1.flat&&(b2.flat&&(b3.flat&&(b4.flat&&true))))=true;rw[(zY hb1).2.2,(zY hb2).2.2,(zY hb3).2.2,(zY hb4).2.2];rfl);obtain⟨G1,eG1,xG1,r1,k1⟩:=qx h3 (.row [b1,b2,b3,b4]);rw[hn1] at hstM eG1 xG1 r1;rw[eG1] at hstM;have r01:G1.at' n0=some (.row [a1,a2,a3,a4]):=by rw[k1.2 _ (by omega)];exact r0
 obtain⟨n2,hn2⟩:∃n,G1.next=n:=⟨_,rfl⟩;have l12:n1<n2:=by omega
 clear eG1 xG1 k1;cases w1:(me1==0) with
 |false=>
  clear ha1 ha2 ha3 ha4 hb1 hb2 hb3 hb4 I hc hs hx hok hok1 hy hys hl hlo
  repeat' first|simp only[go_sem,mu4, *]|apply bc<;>intro hc
 |true=>
 cases w2:(me2==0) with
 |false=>
  clear ha1 ha2 ha3 ha4 hb1 hb2 hb3 hb4 I hc hs hx hok hok1 hy hys hl hlo
  repeat' first|simp only[go_sem,mu4, *]|apply bc<;>intro hc
 |true=>
 have w1:me1=0:=by simpa using w1
 have w2:me2=0:=by simpa using w2
 subst w1 w2;obtain⟨e1,k1⟩:=zF2 hme1;obtain⟨_,k2⟩:=zF2 hme2;have hcat:=zCL (zC4 e1 I.ysm).case;have E1:N1=mkN c l (zC5 (zDL c fs y) out):=by rw[←hN1];unfold zKv;rw[hme1];rfl
 have E2:N2=mkN c l (zC5 (zDL c fs y) other):=by rw[←hN2];unfold zKv;rw[hme2];rfl
 obtain⟨sm1,P1⟩:=zeC hcat hs hok1 hlo k1;obtain⟨sm2,P2⟩:=zeC hcat hs hok1 hlo k2;have t1:N1.ts=N1.ls.map (zFZ c):=by rw[E1];rfl
 have t2:N2.ts=N2.ls.map (zFZ c):=by rw[E2];rfl
 have f1:(∀s∈zGm (zC5 (zDL c fs y) out),s∈N1.ls)∧(∀s∈zJY l (zC5 (zDL c fs y) out),s∈N1.hs)∧∀s∈zK2 (zC5 (zDL c fs y) out),s∈N1.cs:=by
  rw[E1];exact⟨fun s q=>zl.2 q,fun s q=>zl.2 q,fun s q=>zl.2 q⟩
 have f2:(∀s∈zGm (zC5 (zDL c fs y) other),s∈N2.ls)∧(∀s∈zJY l (zC5 (zDL c fs y) other),s∈N2.hs)∧∀s∈zK2 (zC5 (zDL c fs y) other),s∈N2.cs:=by
  rw[E2];exact⟨fun s q=>zl.2 q,fun s q=>zl.2 q,fun s q=>zl.2 q⟩
 rw[←E1] at sm1 k1;rw[←E2] at sm2 k2;have hmg:=fun h=>zZi (x:= .agg [a1,a2,a3,a4]) (y:= .agg [b1,b2,b3,b4]) ⟨_,_,_,_,rfl,ha1,ha2,ha3,ha4⟩ ⟨_,_,_,_,rfl,hb1,hb2,hb3,hb4⟩ sm1 sm2 h;rw[zWG k1 k2 t1 t2] at hmg;have hM:=zWH k1 k2 t1 t2;have smM:=zhc k1 k2 t1 t2 sm1 sm2;have u1:=zXq (out:=out) P1 (M:=MG c N1 N2) (fun s q=>zl.2 (List.mem_append_left _ (f1.1 s q))) rfl (fun s q=>zl.2 (List.mem_append_left _ (f1.2.1 s q))) (fun s q=>zl.2 (List.mem_append_left _ (f1.2.2 s q)))
 have u2:=zXq (out:=other) P2 (M:=MG c N1 N2) (fun s q=>zl.2 (List.mem_append_right _ (f2.1 s q))) rfl (fun s q=>zl.2 (List.mem_append_right _ (f2.2.1 s q))) (fun s q=>zl.2 (List.mem_append_right _ (f2.2.2 s q)));have hTM:(MG c N1 N2).ts.length=(MG c N1 N2).ls.length:=List.length_map _;have z1:=zMe hme1;have z2:=zMe hme2;generalize MG c N1 N2=M at *
 clear E1 E2 hN1 hN2 hme1 hme2 f1 f2 t1 t2 sm1 sm2 k1 k2 ha1 ha2 ha3 ha4 hb1 hb2 hb3 hb4 P1 P2 hcat e1;rcases hM with hM|hM
 ·rw[if_neg (by rw[hM];simp)] at hmg;have hms:∀o∈[out,other],∀ {d:D},zBw M d→∀h,zA Tryz.prog 22 [.agg [ca,cb,ce,cp],x, .agg [ta,oa],ld, .str o,d] h fun r h'=>h'=h∧∃l0,r= .tuple [l0, .int .i64 0]∧∀h,zAd Tryz.prog 45 l0 h=some (.int .i64 0):=fun o ho d hd h=>by
   have hsz:M.ls.length≤1048576∧M.ts.length≤1048576∧M.hs.length≤1048576∧M.cs.length≤1048576:=⟨smM.ls.1,smM.ts.1,smM.hs.1,smM.cs.1⟩;have hu:zQm c l M (zC5 (zDL c fs y) o)= []∧zDz c fs y l o=0:=by
    simp only[List.mem_cons,List.not_mem_nil,or_false] at ho;rcases ho with rfl|rfl
    ·exact⟨u1,z1⟩
    ·exact⟨u2,z2⟩
   have:=zUA I hl hn hlo o hd hsz h;rw[hu.1,hu.2] at this;refine this.mono ?_;rintro r h' ⟨hq,l0,rfl,hF⟩;have hll:=zPZ (L:=[]) (hF rfl).isSl;exact⟨hq,l0,rfl,fun h=>hll h⟩
  have hfmt:=fun {d:D} (hd:zBw M d) h=>zVd hd smM h;have hcnt:=zTH hM hTM;have hol:=zTD hM;have hfe:zQj M=((zQj M).1,0):=by unfold zQj;rw[if_neg (by rw[hM];simp)]
  have hol:(zQj M).1.length≤16777216:=by unfold zQj;rw[if_neg (by rw[hM];simp)];exact hol
  rw[hfe] at hfmt;generalize(zQj M).1=txt at *
  clear hfe hM u1 u2 z1 z2 hTM I hc hs hx hok hok1 hy hys hl hlo
  repeat' first|simp only[go_sem,mu4, *]|apply bc<;>intro hc
  refine(hmg _).mono ?_;rintro r h4 ⟨hq,dm,rfl,g1,g2,g3,g4,rfl,hg1,hg2,hg3,hg4⟩;subst hq;clear hmg;have hfm:=hfmt (d:= .agg [g1,g2,g3,g4]) ⟨_,_,_,_,rfl,hg1,hg2,hg3,hg4⟩;have hlM:=yA hg1;have hct:=zWI (s:=txt) (sub:=zKT) hol (by decide);have hstG:zW Tryz.prog 36 (.ptr h4.next 0) (.agg [g1,g2,g3,g4]) (h4.new h4.next (.row nl4))=some (h4.new h4.next (.row [g1,g2,g3,g4])):=zg zBE (by omega) rfl rfl (by show(g1.flat&&(g2.flat&&(g3.flat&&(g4.flat&&true))))=true;rw[(zY hg1).2.2,(zY hg2).2.2,(zY hg3).2.2,(zY hg4).2.2];rfl);obtain⟨G2,eG2,xG2,r2,k2⟩:=qx h4 (.row [g1,g2,g3,g4]);rw[hn2] at hstG eG2 xG2 r2
  rw[eG2] at hstG;have hb2:∀nid h,zS Tryz.prog false nid 31 2 [(0, .str out),(1, .str other)] h=some (.sl 1 (zt [out,other]) .full,h):=fun nid h=>zjC out other nid h;have hbl:∀h,zAd Tryz.prog 31 (.sl 1 (zt [out,other]) .full) h=some (.int .i64 ((2:Nat):Int)):=fun h=>yA (l:=[out,other]) (zX.mk .full) h;have hN:zBw M (.agg [g1,g2,g3,g4]):=⟨_,_,_,_,rfl,hg1,hg2,hg3,hg4⟩;have hge:decide (((Lib.count txt zKT:Nat):Int)≥(M.ls.length:Int))=true:=decide_eq_true (by omega);generalize Lib.count txt zKT=ct at *
  clear eG2 xG2 k2 hfmt hg1 hg2 hg3 hg4
  repeat' first|simp only[go_sem,mu4, *]|apply bc<;>intro hc
  refine zD (fun i fr h'=>fr 2= .iptr [ca,cb,ce,cp,x,ta,oa,ld, .str out,m1,m2,m3,m4] 0∧fr 9= .ptr n2 0∧fr 10= .int .i64 0∧fr 80= .sl 1 (zt [out,other]) .full∧fr 81= .int .i64 ((2:Nat):Int)∧fr 82= .int .i64 (i:Int)∧h'=G2) 2 (by omega) ?_ ?_ ?_
  ·simp only[go_sem,mu4,true_and,and_true,Int.ofNat_zero]
  ·rintro i fr h5 hlt ec ew ⟨f2,f9,f10,f80,f81,f82,hq⟩;subst hq;have hlt:i< [out,other].length:=hlt;have a1':=yz (zX.mk (sz:=1) (xs:=zt [out,other]) .full) hlt;have hmo:=hms _ (List.getElem_mem hlt) hN;generalize [out,other][i]=o at *
   clear hms hfm hct hge hN
   repeat' first|simp only[go_sem,mu4, *]|apply bc<;>intro hc
   refine(hmo _).mono ?_;rintro r h6 ⟨hq,l0,rfl,hll⟩;subst hq;clear hmo
   repeat' first|simp only[go_sem,mu4, *]|apply bc<;>intro hc
  ·rintro fr h5 ec ⟨f2,f9,f10,f80,f81,f82,hq⟩;subst hq;clear hms hN;have hone:=zS7 n2 (.row [g1,g2,g3,g4]);have hle:HLe (Heap.one n2 (.row [g1,g2,g3,g4])) h5:=by rw[zS8];exact r2
   repeat' first|simp only[go_sem,mu4, *]|apply bc<;>intro hc|(refine zA.mono (hfm _) ?_;rintro r h ⟨hq,rfl⟩)
   refine qG (Heap.one n2 (.row [g1,g2,g3,g4])) [(0, .no,true),(1, .no,true),(2, .no,true),(3, .no,true),(4, .no,true),(5, .no,true),(6, .no,true),(7, .no,true),(9, .no,true),(10, .st,true),(11, .no,true),(8, .no,true),(12, .no,true),(13, .no,true),(14, .no,true)] (by kernel_rfl) (by kernel_rfl) hle ?_
   repeat' first|simp only[go_sem,mu4, *]|apply bc<;>intro hc|(refine zA.mono (hct _) ?_;rintro r h ⟨hq2,rfl⟩)
 ·rw[if_pos (by rw[hM];simp)] at hmg;rw[hM] at hmg
  repeat' first|simp only[go_sem,mu4, *]|apply bc<;>intro hc
  refine(hmg _).mono ?_;rintro r h4 ⟨hq,dm,rfl,g1,g2,g3,g4,rfl,hg1,hg2,hg3,hg4⟩;subst hq;clear hmg;have hstG:zW Tryz.prog 36 (.ptr h4.next 0) (.agg [g1,g2,g3,g4]) (h4.new h4.next (.row nl4))=some (h4.new h4.next (.row [g1,g2,g3,g4])):=zg zBE (by omega) rfl rfl (by show(g1.flat&&(g2.flat&&(g3.flat&&(g4.flat&&true))))=true;rw[(zY hg1).2.2,(zY hg2).2.2,(zY hg3).2.2,(zY hg4).2.2];rfl);obtain⟨G2,eG2,xG2,r2,k2⟩:=qx h4 (.row [g1,g2,g3,g4]);rw[hn2] at hstG eG2 xG2 r2;rw[eG2] at hstG;clear eG2 xG2 k2 hg1 hg2 hg3 hg4
  repeat' first|simp only[go_sem,mu4, *]|apply bc<;>intro hc
end Go.V
