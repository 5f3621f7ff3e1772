/- Contracts of functions that the law reaches, part 4. No condition. -/
import Derived.Test.YtalepjdbhjinhaaGreatDoorW06
import Derived.Test.YtalepjdbhjinhaaGreatDoorW33
import Derived.Test.YtalepjdbhjinhaaGreatDoorW39
import Derived.Test.YtalepjdbhjinhaaGreatDoorW31
import Derived.Test.YtalepjdbhjinhaaGreatDoorW32
import Derived.Test.YtalepjdbhjinhaaGreatDoorW28
import Derived.Test.YtalepjdbhjinhaaGreatDoorW29
set_option linter.all false
namespace Go.V
open Go.Proofs
theorem w8 {α:Type} {f:α→List D} {p:α→Prop} :∀ {ys:List (List D)},(∀y∈ys,∃s,y=f s∧p s)→∃l:List α,ys=l.map f∧∀s∈l,p s
 | [],_=>⟨[],rfl,fun n hn=>by cases hn⟩
 |y::ys,h=>by
  obtain⟨n,rfl,hn⟩:=h y (by simp);obtain⟨ks,rfl,hk⟩:=w8 (ys:=ys) fun z hz=>h z (List.mem_cons_of_mem _ hz);exact⟨n::ks,rfl,fun m hm=>by
   rcases List.mem_cons.1 hm with rfl|hm
   ·exact hn
   ·exact hk m hm⟩
theorem zBy {k:Nat} {c:List D} (h:Shp Tryz.prog k 31 c):∃d l,c= [d]∧zX 1 (zx l) d∧l.length≤1048576:=by
 obtain⟨d,xs,j,e,hj,hs,_,hl,hx⟩:=zBV Tryz.underlying31 qF h;obtain⟨l,rfl,hk⟩:=w8 (f:=fun s:List UInt8=>[D.str s]) fun y hy=>qP Tryz.underlying9 (hx y hy);rw[List.length_map] at hl;exact⟨d,l,e,hs,hl⟩
theorem zUV {k:Nat} {c:List D} (h:Shp Tryz.prog k 137 c):∃d l,c= [d]∧zX 1 (zJY l) d∧l.length≤1048576:=by
 obtain⟨d,xs,j,e,hj,hs,_,hl,hx⟩:=zBV Tryz.underlying137 zMC h;obtain⟨l,rfl,hk⟩:=w8 (f:=fun s:Int=>[D.int .i64 s]) fun y hy=>zAv Tryz.underlying3 (hx y hy);rw[List.length_map] at hl;exact⟨d,l,e,hs,hl⟩
theorem zYX {k:Nat} {c:List D} (h:Shp Tryz.prog k 56 c):∃n:Lic,c=n.cells∧n.Sm:=by
 obtain⟨j,_,hf⟩:=yz Tryz.underlying56 h;obtain⟨c1,r1,rfl,h1,hf⟩:=zI hf;obtain⟨c2,r2,rfl,h2,hf⟩:=zI hf;obtain⟨c3,r3,rfl,h3,hf⟩:=zI hf;obtain⟨c4,r4,rfl,h4,hf⟩:=zI hf;obtain rfl:=wG hf;obtain⟨s1,rfl,b1⟩:=qP Tryz.underlying9 h1;obtain⟨s2,rfl,b2⟩:=qP Tryz.underlying9 h2;obtain⟨s3,rfl,b3⟩:=zAv Tryz.underlying3 h3;obtain⟨s4,rfl,b4⟩:=qP Tryz.underlying9 h4;exact⟨⟨s1,s2,s3,s4⟩,rfl,b1,b2,b4⟩
theorem zYY {k:Nat} {c:List D} (h:Shp Tryz.prog k 139 c):∃n:Exc,c=n.cells∧n.Ok:=by
 obtain⟨j,_,hf⟩:=yz Tryz.underlying139 h;obtain⟨c1,r1,rfl,h1,hf⟩:=zI hf;obtain⟨c2,r2,rfl,h2,hf⟩:=zI hf;obtain⟨c3,r3,rfl,h3,hf⟩:=zI hf;obtain rfl:=wG hf;obtain⟨s1,rfl,b1⟩:=qP Tryz.underlying9 h1;obtain⟨s2,rfl,b2⟩:=qP Tryz.underlying9 h2;obtain⟨d,l,rfl,i3,b3⟩:=zUV h3;exact⟨⟨s1,s2,l,d⟩,rfl,i3,b3,b1⟩
theorem zYZ {k:Nat} {c:List D} (h:Shp Tryz.prog k 143 c):∃n:Cla,c=n.cells∧n.Ok:=by
 obtain⟨j,_,hf⟩:=yz Tryz.underlying143 h;obtain⟨c1,r1,rfl,h1,hf⟩:=zI hf;obtain⟨c2,r2,rfl,h2,hf⟩:=zI hf;obtain⟨c3,r3,rfl,h3,hf⟩:=zI hf;obtain⟨c4,r4,rfl,h4,hf⟩:=zI hf;obtain⟨c5,r5,rfl,h5,hf⟩:=zI hf;obtain rfl:=wG hf;obtain⟨s1,rfl,b1⟩:=qP Tryz.underlying9 h1;obtain⟨s2,rfl,b2⟩:=zAv Tryz.underlying3 h2;obtain⟨s3,rfl,b3⟩:=zAv Tryz.underlying3 h3;obtain⟨s4,rfl,b4⟩:=zAv Tryz.underlying3 h4;obtain⟨d,l,rfl,i5,b5⟩:=zBy h5;exact⟨⟨s1,s2,s3,s4,l,d⟩,rfl,i5,b5⟩
theorem zYa {k:Nat} {c:List D} (h:Shp Tryz.prog k 147 c):∃n:Apt,c=n.cells∧True:=by
 obtain⟨j,_,hf⟩:=yz Tryz.underlying147 h;obtain⟨c1,r1,rfl,h1,hf⟩:=zI hf;obtain⟨c2,r2,rfl,h2,hf⟩:=zI hf;obtain rfl:=wG hf;obtain⟨s1,rfl,b1⟩:=qP Tryz.underlying9 h1;obtain⟨s2,rfl,b2⟩:=qP Tryz.underlying9 h2;exact⟨⟨s1,s2⟩,rfl,trivial⟩
theorem zYb {k:Nat} {c:List D} (h:Shp Tryz.prog k 27 c):∃n:Cat,qw n (.agg c)∧n.Sm:=by
 obtain⟨j,_,hf⟩:=yz Tryz.underlying27 h;obtain⟨c1,r1,rfl,h1,hf⟩:=zI hf;obtain⟨c2,r2,rfl,h2,hf⟩:=zI hf;obtain⟨c3,r3,rfl,h3,hf⟩:=zI hf;obtain⟨c4,r4,rfl,h4,hf⟩:=zI hf;obtain rfl:=wG hf;obtain⟨d1,x1,j1,rfl,_,i1,_,b1,h1⟩:=zBV Tryz.underlying22 zC0 h1;obtain⟨d2,x2,j2,rfl,_,i2,_,b2,h2⟩:=zBV Tryz.underlying23 zGf h2;obtain⟨d3,x3,j3,rfl,_,i3,_,b3,h3⟩:=zBV Tryz.underlying24 zCJ h3;obtain⟨d4,x4,j4,rfl,_,i4,_,b4,h4⟩:=zBV Tryz.underlying25 zJP h4;obtain⟨l1,rfl,k1⟩:=w8 fun y hy=>zYX (h1 y hy);obtain⟨l2,rfl,k2⟩:=w8 fun y hy=>zYY (h2 y hy);obtain⟨l3,rfl,k3⟩:=w8 fun y hy=>zYZ (h3 y hy)
 obtain⟨l4,rfl,k4⟩:=w8 fun y hy=>zYa (h4 y hy);rw[List.length_map] at b1 b2 b3 b4;exact⟨⟨l1,l2,l3,l4⟩,⟨d1,d2,d3,d4,rfl,i1,i2,i3,i4⟩,⟨b1,k1⟩,⟨b2,k2⟩,⟨b3,k3⟩,b4⟩
theorem zV0:∀ {l:List Ex},(∀e∈l,e.Ok)→okL l
 | [],_=>by simp only[okL]
 |e::l,h=>by simp only[okL];exact⟨h e (by simp),zV0 fun x hx=>h x (List.mem_cons_of_mem _ hx)⟩
theorem zV1 (k:Nat):∀ {c:List D},Shp Tryz.prog k 62 c→∃e:Ex,c=e.cells∧e.Ok:=by
 induction k using Nat.strongRecOn with
 |_ k ih=>
 intro c h;obtain⟨j,hj,hf⟩:=yz Tryz.underlying62 h;obtain⟨c1,r1,rfl,h1,hf⟩:=zI hf;obtain⟨c2,r2,rfl,h2,hf⟩:=zI hf;obtain⟨c3,r3,rfl,h3,hf⟩:=zI hf;obtain⟨c4,r4,rfl,h4,hf⟩:=zI hf;obtain rfl:=wG hf;obtain⟨s1,rfl,b1⟩:=zAv Tryz.underlying3 h1;obtain⟨s2,rfl,b2⟩:=qP Tryz.underlying9 h2;obtain⟨s3,rfl,b3⟩:=qP Tryz.underlying9 h3;obtain⟨d4,x4,m,rfl,hm,i4,_,b4,h4⟩:=zBV Tryz.underlying60 zQO h4;obtain⟨l,rfl,kl⟩:=w8 fun y hy=>ih m (by omega) (h4 y hy);rw[List.length_map] at b4;exact⟨.mk s1 s2 s3 l d4,rfl,by simp only[Ex.Ok];exact⟨i4,b4,b2,b3,zV0 kl⟩⟩
theorem zYc {k:Nat} {c:List D} (h:Shp Tryz.prog k 83 c):∃f:Fac,c=f.cells∧f.Ok0:=by
 obtain⟨j,_,hf⟩:=yz Tryz.underlying83 h;obtain⟨c1,r1,rfl,h1,hf⟩:=zI hf;obtain⟨c2,r2,rfl,h2,hf⟩:=zI hf;obtain⟨c3,r3,rfl,h3,hf⟩:=zI hf;obtain⟨c4,r4,rfl,h4,hf⟩:=zI hf;obtain⟨c5,r5,rfl,h5,hf⟩:=zI hf;obtain⟨c6,r6,rfl,h6,hf⟩:=zI hf;obtain⟨c7,r7,rfl,h7,hf⟩:=zI hf;obtain⟨c8,r8,rfl,h8,hf⟩:=zI hf;obtain⟨c9,r9,rfl,h9,hf⟩:=zI hf;obtain rfl:=wG hf;obtain⟨s1,rfl,b1⟩:=zAv Tryz.underlying3 h1;obtain⟨s2,rfl,b2⟩:=qP Tryz.underlying9 h2;obtain⟨s3,rfl,b3⟩:=qP Tryz.underlying9 h3;obtain⟨s4,rfl,b4⟩:=zAv Tryz.underlying3 h4;obtain⟨s5,rfl,b5⟩:=zAv Tryz.underlying3 h5;obtain⟨s6,rfl,b6⟩:=zAv Tryz.underlying3 h6
 obtain⟨s7,rfl⟩:=zTn Tryz.underlying4 h7;obtain⟨e,rfl,b8⟩:=zV1 _ h8;obtain⟨d,l,rfl,i9,b9⟩:=zBy h9;exact⟨⟨s1,s2,s3,s4,s5,s6,s7,e,l,d⟩,rfl,b8,i9,b9,b2,b3⟩
theorem zUW {k:Nat} {c:List D} (h:Shp Tryz.prog k 29 c):∃d fs,c= [d]∧zX 12 (zJ9 fs) d∧fs.length≤1048576∧∀f∈fs,f.Ok0:=by
 obtain⟨d,xs,j,e,hj,hs,_,hl,hx⟩:=zBV Tryz.underlying29 zQP h;obtain⟨l,rfl,hk⟩:=w8 fun y hy=>zYc (hx y hy);rw[List.length_map] at hl;exact⟨d,l,e,hs,hl,hk⟩
theorem zSe {k:Nat} {c:List D} (h:Shp Tryz.prog k 31 c):∃d l,c= [d]∧zX 1 (zx l) d∧l.length≤1048576∧∀s∈l,s.length≤1048576:=by
 obtain⟨d,xs,j,e,hj,hs,_,hl,hx⟩:=zBV Tryz.underlying31 qF h;obtain⟨l,rfl,hk⟩:=w8 (f:=fun s:List UInt8=>[D.str s]) fun y hy=>qP Tryz.underlying9 (hx y hy);rw[List.length_map] at hl;exact⟨d,l,e,hs,hl,hk⟩
theorem zYd {k:Nat} {c:List D} (h:Shp Tryz.prog k 51 c):∃n:Trm,c=n.cells∧True:=by
 obtain⟨j,_,hf⟩:=yz Tryz.underlying51 h;obtain⟨c1,r1,rfl,h1,hf⟩:=zI hf;obtain⟨c2,r2,rfl,h2,hf⟩:=zI hf;obtain rfl:=wG hf;obtain⟨s1,rfl,b1⟩:=qP Tryz.underlying9 h1;obtain⟨s2,rfl,b2⟩:=qP Tryz.underlying9 h2;exact⟨⟨s1,s2⟩,rfl,trivial⟩
theorem zYe {k:Nat} {c:List D} (h:Shp Tryz.prog k 168 c):∃a:Alt,c= [a.d]∧a.Sm:=by
 obtain⟨d,xs,j,e,hj,hs,_,hl,hx⟩:=zBV Tryz.underlying168 wQ h;obtain⟨l,rfl,_⟩:=w8 fun y hy=>zYd (hx y hy);rw[List.length_map] at hl;exact⟨⟨l,d⟩,e,hs,hl⟩
theorem zYf {k:Nat} {c:List D} (h:Shp Tryz.prog k 33 c):∃ (y:Cho) (a b:D),c= [a,b]∧zMr y (.agg [a,b])∧y.Sm:=by
 obtain⟨j,_,hf⟩:=yz Tryz.underlying33 h;obtain⟨c1,r1,rfl,h1,hf⟩:=zI hf;obtain⟨c2,r2,rfl,h2,hf⟩:=zI hf;obtain rfl:=wG hf;obtain⟨d1,x1,j1,rfl,_,i1,_,b1,h1⟩:=zBV Tryz.underlying30 wL h1;obtain⟨l1,rfl,k1⟩:=w8 fun y hy=>zYe (h1 y hy);obtain⟨d2,l2,rfl,i2,b2⟩:=zBy h2;rw[List.length_map] at b1;exact⟨⟨l1,l2⟩,d1,d2,rfl,⟨d1,d2,rfl,i1,i2⟩,b1,b2,k1⟩
theorem zYg {k:Nat} {c:List D} (h:Shp Tryz.prog k 65 c):∃x:Con,c=x.cells∧x.Ok:=by
 obtain⟨j,_,hf⟩:=yz Tryz.underlying65 h;obtain⟨c1,r1,rfl,h1,hf⟩:=zI hf;obtain⟨c2,r2,rfl,h2,hf⟩:=zI hf;obtain⟨c3,r3,rfl,h3,hf⟩:=zI hf;obtain⟨c4,r4,rfl,h4,hf⟩:=zI hf;obtain⟨c5,r5,rfl,h5,hf⟩:=zI hf;obtain rfl:=wG hf;obtain⟨s1,rfl,b1⟩:=qP Tryz.underlying9 h1;obtain⟨⟨s,t1,t2,t3,t4⟩,rfl,_⟩:=zV1 _ h2;obtain⟨d3,l3,rfl,i3,b3,k3⟩:=zSe h3;obtain⟨d4,x4,j4,rfl,_,i4,_,b4,_⟩:=zBV Tryz.underlying63 zW9 h4;obtain⟨s5,rfl,b5⟩:=qP Tryz.underlying9 h5;exact⟨⟨s1,l3,_,_,_,_,d3,d4, .str s5⟩,rfl,i3,k3,b3⟩
theorem zSf {k:Nat} {c:List D} (h:Shp Tryz.prog k 38 c):∃ (n:Cat) (fs:List Fac) (y:Cho) (l:List Con) (out:List UInt8) (ca cb ce cp x ta oa ld m1 m2 m3 m4:D),c= [ca,cb,ce,cp,x,ta,oa,ld, .str out,m1,m2,m3,m4]∧qw n (.agg [ca,cb,ce,cp])∧n.Sm∧zX 12 (zJ9 fs) x∧fs.length≤1048576∧(∀f∈fs,f.Ok0)∧zMr y (.agg [ta,oa])∧y.Sm∧zX 8 (cons l) ld∧l.length≤1048576∧∀x∈l,x.Ok:=by
 obtain⟨j,_,hf⟩:=yz Tryz.underlying38 h;obtain⟨c1,r1,rfl,h1,hf⟩:=zI hf;obtain⟨c2,r2,rfl,h2,hf⟩:=zI hf;obtain⟨c3,r3,rfl,h3,hf⟩:=zI hf;obtain⟨c4,r4,rfl,h4,hf⟩:=zI hf;obtain⟨c5,r5,rfl,h5,hf⟩:=zI hf;obtain⟨c6,r6,rfl,h6,hf⟩:=zI hf;obtain rfl:=wG hf;obtain⟨n,⟨ca,cb,ce,cp,e1,q1,q2,q3,q4⟩,hs⟩:=zYb h1;cases e1;obtain⟨x,fs,rfl,hx,hl,hok⟩:=zUW h2;obtain⟨y,ta,oa,rfl,hy,hys⟩:=zYf h3;obtain⟨ld,xs,j4,rfl,_,i4,_,b4,h4⟩:=zBV Tryz.underlying34 zUr h4;obtain⟨l,rfl,kl⟩:=w8 fun y hy=>zYg (h4 y hy);rw[List.length_map] at b4;obtain⟨out,rfl,b5⟩:=qP Tryz.underlying9 h5;obtain⟨j6,_,hf⟩:=yz Tryz.underlying36 h6
 obtain⟨g1,r1,rfl,h1,hf⟩:=zI hf;obtain⟨g2,r2,rfl,h2,hf⟩:=zI hf;obtain⟨g3,r3,rfl,h3,hf⟩:=zI hf;obtain⟨g4,r4,rfl,h4,hf⟩:=zI hf;obtain rfl:=wG hf;obtain⟨m1,_,rfl,_⟩:=zBy h1;obtain⟨m2,_,rfl,_⟩:=zBy h2;obtain⟨m3,_,rfl,_⟩:=zBy h3;obtain⟨m4,_,rfl,_⟩:=zBy h4;exact⟨n,fs,y,l,out,ca,cb,ce,cp,x,ta,oa,ld,m1,m2,m3,m4,rfl,⟨ca,cb,ce,cp,rfl,q1,q2,q3,q4⟩,hs,hx,hl,hok,hy,hys,i4,b4,kl⟩
set_option maxRecDepth 100000
theorem zYh {L:List Due} {d:D} (hd:zX 7 (L.map qf) d) {i:Nat} (hi:i<L.length):zN Tryz.prog 45 d (.int .i64 (i:Int))=some (.iptr (qf L[i]) 0):=zG hd zAX zA7 (by simp[hi])
theorem zOR {L:List Due} {d:D} (hd:zX 7 (L.map qf) d) (h:Heap):zBe Tryz.prog 45 d h=some (.int .i64 (L.length:Int)):=by rw[zQ hd Tryz.underlying45,List.length_map]
section
variable {ca cb ce cp x ta oa ld n1 n2 n3 n4:D} {out:List UInt8}
end
theorem zPQ {n:Note} (h:zAP n=0):max (max (max n.ls.length n.ts.length) n.hs.length) n.cs.length≤1024:=by
 unfold zAP at h;split at h
 ·exact absurd h (by decide)
 ·omega
theorem zLh {c:Cat} {fs:List Fac} {y:Cho} {l:List Con} {out:List UInt8} (h:zER c fs y l out=0):yC c fs y true=0∧zAP (mkN c l (zEV (zFT c fs y) out))=0:=by
 have h0:zDV c fs y l out=0:=by
  cases q:(zDV c fs y l out==0) with
  |true=>simpa using q
  |false=>
   unfold zER at h;rw[q] at h
   have:zDV c fs y l out=0:=h;exact this
 refine⟨?_,?_⟩
 ·unfold zDV at h0;split at h0
  ·rename_i q;rw[h0] at q;exact absurd q (by decide)
  ·rename_i q;simpa using q
 ·unfold zER at h;rw[h0] at h;exact h
def fnd (c:Cat) (s:List UInt8):Lic:=match wd c s with
 |some x=>x
 |none=>⟨[],[],0,[]⟩
theorem zUX (c:Cat) (s:List UInt8):∃b,zBY c s= .tuple [.agg [.str (fnd c s).name, .str (fnd c s).fam, .int .i64 (fnd c s).ver, .str (fnd c s).text], .bool b]:=by
 unfold zBY fnd;cases wd c s with
 |none=>exact⟨_,rfl⟩
 |some x=>exact⟨_,rfl⟩
def zZR (c:Cat) (n:Note) (s:List UInt8):Bool:=(n.ls.zip n.ts).any fun p=>p.1==(fnd c s).name&&p.2==(fnd c s).text
def zff (l:List Con) (n:Note) (comp:List UInt8):Bool:= !(zPM l comp).any fun s=> !n.hs.any (· ==s)
def zPR (c:Cat) (l:List Con) (n:Note) (v:Due):Bool:=
 if(v.2.2.2.2.2.2==0)=true then zZR c n v.2.2.1
 else if(v.2.2.2.2.2.2==1)=true then zff l n v.2.1
 else n.cs.any (· ==v.2.1)
theorem zPS {a1 a2 a3 a4:D} {l:List (List UInt8)} (hd:zX 1 (zx l) a3) (hl:l.length≤1048576) (s:List UInt8) (h:Heap):
  zA Tryz.prog 101 ([]++ [.str s]++ [.iptr [a1,a2,a3,a4] 0]) h fun r h'=>h'=h∧r= .bool (!l.any (· ==s)):=by
 have hcs:=fun h=>zDH hd hl s h;obtain⟨q1,q2,_⟩:=z7 hd;show zA _ _ [.str s, .iptr [a1,a2,a3,a4] 0] _ _;refine zA.of_fn (g:=zNo) mix Tryz.func101 zbS rfl rfl ?_;simp only[Tryz.f101,gJ]
 repeat' first|simp only[go_sem,ze6, *]|apply bc<;>intro hc|(refine zA.mono (hcs _) ?_;rintro r h ⟨hq,rfl⟩)
theorem zIl {n:Note} {p:List UInt8×List UInt8→Bool} {i:Nat} (h:i<n.ls.length) (h2:i<n.ts.length) (hp:p (n.ls[i],n.ts[i])=true):(n.ls.zip n.ts).any p=true:=by
 refine List.any_eq_true.2 ⟨(n.ls[i],n.ts[i]),?_,hp⟩
 have:(n.ls.zip n.ts)[i]'(by rw[List.length_zip];omega)=(n.ls[i],n.ts[i]):=List.getElem_zip;rw[←this];exact List.getElem_mem _
theorem zE2 {n:Note} {p:List UInt8×List UInt8→Bool} (hp:∀i (h:i<n.ls.length) (h2:i<n.ts.length),p (n.ls[i],n.ts[i])=false):(n.ls.zip n.ts).any p=false:=by
 rw[List.any_eq_false];intro x hx;obtain⟨i,hi,rfl⟩:=List.mem_iff_getElem.1 hx;rw[List.length_zip] at hi;rw[List.getElem_zip,hp i (by omega) (by omega)];decide
set_option maxHeartbeats 8000000 in
theorem zSg {c:Cat} {d:D} (hc:qw c d) (hs:c.Sm) {l:List Con} {ld:D} (hl:zX 8 (cons l) ld) (hln:l.length≤1048576) (hlo:∀x∈l,x.Ok) {n:Note} {nd:D} (hn:zC4 n nd) (hsm:n.ls.length≤1048576∧n.ts.length≤1048576∧n.hs.length≤1048576∧n.cs.length≤1048576) (v:Due) (g:Heap):
  zA Tryz.prog 47 [d,ld,nd, .agg (qf v)] g fun r h'=>h'=g∧r= .bool (zPR c l n v):=by
 refine zA.pure (by kernel_rfl) fun hok'=>zA.strip ?_;refine zA.post fun Q hQ=> ?_;have hfin:∀ {h':Heap},Ext g h'→∀ {b:Bool},zPR c l n v=b→Q (.bool b) h':=fun {h'} hE {b} hb=>hQ _ _ ⟨hE,trivial,by rw[hb];rfl⟩;have hfd:=fun k h=>zLH hc hs k h;have hho:=fun comp h=>zHT hl hln hlo comp h;obtain⟨a,b,e,p,rfl,_⟩:=hc;obtain⟨a1,a2,a3,a4,rfl,ha1,ha2,ha3,ha4⟩:=hn;obtain⟨s1,s2,s3,s4⟩:=hsm;have hv4:∀a b c e:D,zW true 4 [a,b,c,e] 0=some (.agg [a,b,c,e]):=fun a b c e=>zB rfl (by omega);have t1:=yG ha1;have t2:=yG ha2;have w1:(qf v)[1]? =some (.str v.2.1):=rfl;have w2:(qf v)[2]? =some (.str v.2.2.1):=rfl
 have w5:(qf v)[5]? =some (.int .i64 v.2.2.2.2.2.1):=rfl;have w6:(qf v)[6]? =some (.int .i64 v.2.2.2.2.2.2):=rfl;clear hQ;unfold zPR at hfin;generalize qf v=vc at *
 cases c0:(v.2.2.2.2.2.2==0) with
 |true=>
  rw[c0] at hfin;have c0:v.2.2.2.2.2.2=0:=by simpa using c0
  rw[c0] at w6;obtain⟨fb,hfb⟩:=zUX c v.2.2.1;have hfs:=hfd v.2.2.1;rw[hfb] at hfs;have hfin:∀ {h':Heap},Ext g h'→∀ {b:Bool},zZR c n v.2.2.1=b→Q (.bool b) h':=fun {h'} hE {b} hb=>hfin hE hb;unfold zZR at hfin;generalize fnd c v.2.2.1=k at *
  have hst10:zS Tryz.prog 56 (.ptr g.next 0) (.agg [.str k.name, .str k.fam, .int .i64 k.ver, .str k.text]) (g.new g.next (.row zEA))=some (g.new g.next (.row [.str k.name, .str k.fam, .int .i64 k.ver, .str k.text])):=zg zC0 (by omega) rfl rfl rfl;obtain⟨G,hG,hGn,g10,hE⟩:=yh g (.row [.str k.name, .str k.fam, .int .i64 k.ver, .str k.text]);rw[hG] at hst10;have hfin:=fun {b} =>hfin hE (b:=b);clear hfd hho hG hE hGn hl hlo ha3 ha4 hfb;refine zA.of_fn (g:=zOs) mix Tryz.func47 zcu rfl rfl ?_;simp only[Tryz.f47,gJ]
  repeat' first|simp only[go_sem,zOt, *]|apply bc<;>intro hc|(refine zA.mono (hfs _) ?_;rintro r h ⟨hq,rfl⟩)
  refine zE (fun i fr h'=>fr 6= .iptr [a1,a2,a3,a4] 0∧fr 9= .ptr g.next 0∧fr 28=a1∧fr 29= .int .i64 (n.ls.length:Int)∧fr 30= .int .i64 (i:Int)∧h'=G∧∀j (h1:j<n.ls.length) (h2:j<n.ts.length),j<i→(n.ls[j]==k.name&&n.ts[j]==k.text)=false) n.ls.length (by omega) ?_ ?_ ?_
  ·simp only[go_sem,zOt,true_and,and_true,Int.ofNat_zero];exact fun j h1 h2 h0=>by omega
  ·rintro i fr h5 hlt ec ew ⟨f6,f9,f28,f29,f30,rfl,hj⟩;have b1:=qZ ha1 hlt;have hT:∀ (h2:i<n.ts.length),(n.ls[i]==k.name&&n.ts[i]==k.text)=true→Q (.bool true) h5:=fun h2 q=>hfin (zIl hlt h2 q);have hN:(∀ (h2:i<n.ts.length),(n.ls[i]==k.name&&n.ts[i]==k.text)=false)→∀j (h1:j<n.ls.length) (h2:j<n.ts.length),j<i+1→(n.ls[j]==k.name&&n.ts[j]==k.text)=false:=fun q j h1 h2 h0=>by
    rcases Nat.lt_succ_iff_lt_or_eq.1 h0 with h|rfl
    ·exact hj j h1 h2 h
    ·exact q h2
   clear hfin hfs hj hv4 w1 w2 w5 w6 hst10;cases e1:(n.ls[i]==k.name) with
   |false=>
    have hN2:=hN fun h2=>by rw[e1];rfl
    clear hT hN;generalize n.ls[i]=s at *
    repeat' first|simp only[go_sem,zOt, *]|apply bc<;>intro hc
    refine zf (by kernel_rfl) ?_
    repeat' first|simp only[go_sem,zOt, *]|apply bc<;>intro hc
    exact hN2
   |true=>
    cases e2:decide ((i:Int)<(n.ts.length:Int)) with
    |false=>
     have hN2:=hN fun h2=>by have:=of_decide_eq_false e2;omega
     clear hT hN;generalize n.ls[i]=s at *
     repeat' first|simp only[go_sem,zOt, *]|apply bc<;>intro hc
     refine zf (by kernel_rfl) ?_
     repeat' first|simp only[go_sem,zOt, *]|apply bc<;>intro hc
     exact hN2
    |true=>
     have hti:i<n.ts.length:=by have:=of_decide_eq_true e2;omega
     have b2:=qZ ha2 hti;cases e3:(n.ts[i]==k.text) with
     |false=>
      have hN2:=hN fun h2=>by rw[e3,Bool.and_false]
      clear hT hN;generalize n.ls[i]=s at *
      generalize n.ts[i]=s2 at *
      repeat' first|simp only[go_sem,zOt, *]|apply bc<;>intro hc
      refine zf (by kernel_rfl) ?_
      repeat' first|simp only[go_sem,zOt, *]|apply bc<;>intro hc
      exact hN2
     |true=>
      have hT:=hT hti (by rw[e1,e3];rfl);clear hN;generalize n.ls[i]=s at *
      generalize n.ts[i]=s2 at *
      repeat' first|simp only[go_sem,zOt, *]|apply bc<;>intro hc
      refine zf (by kernel_rfl) ?_
      repeat' first|simp only[go_sem,zOt, *]|apply bc<;>intro hc
  ·rintro fr h5 ec ⟨f6,f9,f28,f29,f30,rfl,hj⟩;have hT:=hfin (zE2 (p:=fun p=>p.1==k.name&&p.2==k.text) fun i h1 h2=>hj i h1 h2 h1);clear hfin hj
   repeat' first|simp only[go_sem,zOt, *]|apply bc<;>intro hc
 |false=>
  rw[c0] at hfin;simp only[Bool.false_eq_true,if_false] at hfin;obtain⟨m,hm⟩:∃m,v.2.2.2.2.2.2=m:=⟨_,rfl⟩;rw[hm] at w6 hfin c0;clear hm;cases c1:(m==1) with
  |true=>
   rw[c1] at hfin;have c1:m=1:=by simpa using c1
   subst c1;have hfin:=hfin (Ext.refl g) rfl;simp only[if_true] at hfin;unfold zff at hfin;have hhv:=hho v.2.1;have hh:∃hd b,zLf l v.2.1= .tuple [hd, .bool b]∧zX 1 (zx (zPM l v.2.1)) hd∧(zPM l v.2.1).length≤1048576:=by
    unfold zLf zPM;cases e:zDU l v.2.1 with
    |none=>exact⟨_,_,rfl,zX.nil,Nat.zero_le _⟩
    |some k=>
     have hk:=hlo k (List.mem_of_find?_eq_some e);exact⟨_,_,rfl,hk.sl,hk.len⟩
   obtain⟨hd,hb,hh1,hh2,hh3⟩:=hh;rw[hh1] at hhv;have hcf:=fun h=>zCL hh2 hh3 (g:=101) (fst:=[]) (cap:=[.iptr [a1,a2,a3,a4] 0]) (p:=fun s=> !n.hs.any (· ==s)) (fun s _ h=>zPS ha3 s3 s h) h;obtain⟨q1,q2,_⟩:=z7 hh2;generalize zPM l v.2.1=H at *
   clear hfd hho hl hlo hh1 hh2 hh3 ha1 ha2 ha3 ha4;refine zA.of_fn (g:=zOs) mix Tryz.func47 zcu rfl rfl ?_;simp only[Tryz.f47,gJ]
   repeat' first|simp only[go_sem,zOt, *]|apply bc<;>intro hc|(refine zA.mono (hhv _) ?_;rintro r h ⟨hq,rfl⟩)|(refine zA.mono (hcf _) ?_;rintro r h ⟨hq2,rfl⟩)
  |false=>
   rw[c1] at hfin;have hfin:=hfin (Ext.refl g) rfl;simp only[Bool.false_eq_true,if_false] at hfin;have hcs:=fun h=>zDH ha4 s4 v.2.1 h;obtain⟨q1,q2,_⟩:=z7 ha4;clear hfd hho hl hlo ha1 ha2 ha3 ha4;refine zA.of_fn (g:=zOs) mix Tryz.func47 zcu rfl rfl ?_;simp only[Tryz.f47,gJ]
   repeat' first|simp only[go_sem,zOt, *]|apply bc<;>intro hc|(refine zA.mono (hcs _) ?_;rintro r h ⟨hq,rfl⟩)
def zHq (c:Cat) (l:List Con) (n:Note) (F:List Due):List Due:=F.filter fun v=> !zPR c l n v
theorem zSh {c:Cat} {l:List Con} {n:Note} {F:List Due} {i:Nat} (h:i<F.length):zHq c l n (F.take (i+1))=zHq c l n (F.take i)++if zPR c l n F[i]=true then [] else [F[i]]:=by
 unfold zHq;rw[List.take_succ_eq_append_getElem h,List.filter_append];cases e:zPR c l n F[i] with
 |true=>simp[e]
 |false=>simp[e]
set_option maxHeartbeats 8000000 in
theorem zSi {c:Cat} {fs:List Fac} {y:Cho} {d x yd:D} (I:CIn c fs y d x yd) {l:List Con} {ld:D} (hl:zX 8 (cons l) ld) (hln:l.length≤1048576) (hlo:∀x∈l,x.Ok) (out:List UInt8) {n:Note} {nd:D} (hn:zC4 n nd) (hsm:n.ls.length≤1048576∧n.ts.length≤1048576∧n.hs.length≤1048576∧n.cs.length≤1048576) (g:Heap):
  zA Tryz.prog 22 [d,x,yd,ld, .str out,nd] g fun r h'=>h'=g∧∃r0,r= .tuple [r0, .int .i64 (zDV c fs y l out)]∧(zDV c fs y l out=0→Fin 7 ((zHq c l n (zEV (zFT c fs y) out)).map qf) r0):=by
 refine zA.pure (by kernel_rfl) fun hok'=>zA.strip ?_;refine zA.post fun Q hQ=> ?_;have hnd:=fun h=>zIk I hl hln hlo out h;have hff:=fun v h=>zSg I.cat I.sm hl hln hlo hn hsm v h;have hdl:=zMy I;have hIy:=I.ysm;obtain⟨a,b,e,p,rfl,_⟩:=I.cat;obtain⟨ta,oa,rfl,_,_⟩:=I.cho;obtain⟨a1,a2,a3,a4,rfl,ha1,ha2,ha3,ha4⟩:=hn;have hv4:∀a b c e:D,zW true 4 [a,b,c,e] 0=some (.agg [a,b,c,e]):=fun a b c e=>zB rfl (by omega);have hv2:zW true 2 [ta,oa] 0=some (.agg [ta,oa]):=zB rfl (by omega);refine zA.of_fn (g:=zTJ) mix Tryz.func22 zgR rfl rfl ?_;simp only[Tryz.f22,gJ];cases he:(zDV c fs y l out==0) with
 |false=>
  have hne:zDV c fs y l out≠0:=by simpa using he
  have hfin:Q (.tuple [.nilsl, .int .i64 (zDV c fs y l out)]) g:=hQ _ _ ⟨Ext.refl g,⟨trivial,trivial,trivial⟩,_,rfl,fun q=>absurd q hne⟩;clear hQ hdl hff I ha1 ha2 ha3 ha4
  repeat' first|simp only[go_sem,zVE, *]|apply bc<;>intro hc
  refine(hnd _).mono ?_;rintro r h1 ⟨hq,l0,rfl,_,hz⟩;have hz:=hz hne;subst hz hq
  repeat' first|simp only[go_sem,zVE, *]|apply bc<;>intro hc
 |true=>
  have h0:zDV c fs y l out=0:=by simpa using he
  have hch:yC c fs y true=0:=by
   unfold zDV at h0;split at h0
   ·rename_i q;rw[h0] at q;exact absurd q (by decide)
   ·rename_i q;simpa using q
  have hL:=hdl hch;have hFl:=zJ1 (zFT c fs y) out;rw[h0] at hnd he
  repeat' first|simp only[go_sem,zVE, *]|apply bc<;>intro hc
  refine(hnd _).mono ?_;rintro r h1 ⟨hq,l0,rfl,hF,_⟩;subst hq;have hls:=(hF rfl).isSl;obtain⟨F,hFF⟩:∃F,zEV (zFT c fs y) out=F:=⟨_,rfl⟩;rw[hFF] at hls hFl;have hFl:F.length≤33554432:=Nat.le_trans hFl hL;have hll:=zOR hls;have hQf:∀ {d0:D} {h':Heap},Own h1 h' 7 ((zHq c l n (F.take F.length)).map qf) d0→Q (.tuple [d0, .int .i64 0]) h':=fun {d0 h'} k1=>by
   rw[List.take_length] at k1;obtain⟨f1,f2,f3⟩:=k1.fin (zLg _);exact hQ _ _ ⟨f1,⟨f2,trivial,trivial⟩,yH d0,by rw[h0];rfl,fun _=>by rw[hFF];exact f3⟩
  have hN0:Own h1 h1 7 ((zHq c l n (F.take 0)).map qf) .nilsl:=Own.start (Ext.refl h1) 7;clear hQ hnd hF hdl hL hFF h0 hch I ha1 ha2 ha3 ha4
  repeat' first|simp only[go_sem,zVE, *]|apply bc<;>intro hc
  refine zE (fun i fr h=>fr 3=ld∧fr 6= .iptr [a,b,e,p] 0∧fr 11= .iptr [a1,a2,a3,a4] 0∧fr 31=l0∧fr 32= .int .i64 (F.length:Int)∧fr 33= .int .i64 (i:Int)∧Own h1 h 7 ((zHq c l n (F.take i)).map qf) (fr 16)) F.length (by omega) ?_ ?_ ?_
  ·simp only[go_sem,zVE,true_and,and_true,Int.ofNat_zero,hN0]
  ·clear hN0 hQf;rintro i fr h2 hlt ec ew ⟨f3,f6,f11,f31,f32,f33,hN⟩;obtain⟨d0,hd0⟩:∃d0,fr 16=d0:=⟨_,rfl⟩;rw[hd0] at hN;have a1':=zYh hls hlt;have hns:=zSh (c:=c) (l:=l) (n:=n) hlt;have hnl:(zHq c l n (F.take i)).length≤i:=Nat.le_trans (List.length_filter_le _ _) (by rw[List.length_take];omega);generalize F[i]=v at *
   have hvD:zW true 7 (qf v) 0=some (.agg (qf v)):=zB rfl (by omega);have hst3:zS Tryz.prog 53 (.ptr h2.next 0) (.agg (qf v)) (h2.new h2.next (.row [.str [], .str [], .str [], .str [], .int .i64 0, .int .i64 0, .int .i64 0]))=some (h2.new h2.next (.row (qf v))):=zg zA7 (by omega) rfl rfl rfl;obtain⟨G,hG,hGn,q1,hE⟩:=yh h2 (.row (qf v));rw[hG] at hst3;have hOG:=hN.ext hE;have hfv:=hff v
   obtain⟨d',h6,va,hO6,_,_⟩:=hOG.app1 (P:=Tryz.prog) (t:=45) (tk:= .full) (ys:=[qf v]) zAX zMD zA7 (by omega) (fun y hy=>by rw[List.mem_singleton.1 hy];rfl) (by simp) (by rw[zGe,List.length_map,List.length_singleton];unfold lim;omega) (by rw[List.length_map,List.length_singleton];unfold lim;omega);rw[hGn] at va;have hbs1:∀nid h,zV Tryz.prog false nid 45 1 [(0, .agg (qf v))] h=some (.sl 7 [qf v] .full,h):=fun nid h=>yR zAX zFu zA7 rfl rfl (by omega) (by omega) rfl rfl;cases hb:zPR c l n v with
   |true=>
    rw[hb] at hfv;have hfin:Own h1 G 7 ((zHq c l n (F.take (i+1))).map qf) d0:=by rw[hns,if_pos hb,List.append_nil];exact hOG
    clear hns hnl hN hOG hO6 va hE hG hls hff hbs1
    repeat' first|simp only[go_sem,zVE, *]|apply bc<;>intro hc|(refine zA.mono (hfv _) ?_;rintro r h ⟨hq,rfl⟩)
   |false=>
    rw[hb] at hfv;have hfin:Own h1 h6 7 ((zHq c l n (F.take (i+1))).map qf) d':=by rw[hns,if_neg (by rw[hb];decide),List.map_append];exact hO6
    clear hns hnl hN hOG hO6 hE hG hls hff
    repeat' first|simp only[go_sem,zVE, *]|apply bc<;>intro hc|(refine zA.mono (hfv _) ?_;rintro r h ⟨hq,rfl⟩)
  ·clear hN0;rintro fr h2 ec ⟨f3,f6,f11,f31,f32,f33,hN⟩;have hfin:=hQf hN;clear hQf hN
   repeat' first|simp only[go_sem,zVE, *]|apply bc<;>intro hc
theorem zET {l:List (List UInt8)} {id i:Nat} {h:Heap} (hi:i<l.length) (hl:l.length≤1099511627776) (hrow:h.at' id=some (.row (l.map sdd))):
  zA Tryz.prog 27 [.rs id 1 0 l.length, .int .i64 (i:Int), .int .i64 ((i+1:Nat):Int)] h fun r h'=>r= .rs id 1 0 (l.eraseIdx i).length∧h'=h.set id (.row ((l.eraseIdx i).map sdd++ [sdd []])):=by
 have he:l.take i++l.drop (i+1)=l.eraseIdx i:=by rw[List.eraseIdx_eq_take_drop_succ]
 have hle:(l.eraseIdx i).length=l.length-1:=by rw[List.length_eraseIdx,if_pos hi]
 have:=zA.of_row (P:=Tryz.prog) (f:=27) (α:=List UInt8) (enc:=encStr) (dd:=sdd) (fun M ρ x v hr=>zRf hr) (fun _=>rfl) (xs:=l) (ys:=l.eraseIdx i++ [[]]) (m:=(l.eraseIdx i).length) (rest:=[.int .i64 (i:Int), .int .i64 ((i+1:Nat):Int)]) (id:=id) (pre:=[]) (post:=[]) (h:=h) (by kernel_rfl) (by simpa using hrow) (by omega) (by rw[List.length_append,hle,List.length_singleton];omega) (by omega)
  (fun y hy=>by
   rcases List.mem_append.1 hy with hy|hy
   ·exact .inl (List.mem_of_mem_eraseIdx hy)
   ·refine .inr fun M ρ=> ?_;rw[List.mem_singleton.1 hy];simp only[sdd,rel];exact⟨⟨#[]⟩,rfl,rfl,by decide⟩)
  (fun blk o cap w M ρ va hH h1 h2 hr=>by
   simp only[zq,rel] at hr;obtain⟨v1,_,rfl,⟨rfl,_⟩,v2,_,rfl,⟨rfl,_⟩,rfl⟩:=hr;have hd:=Tryz.slices_Delete_string blk o cap i (i+1) l w hH h1 h2 (by omega) (by omega);have e2:l.take i++l.drop (i+1)++List.replicate (i+1-i) []=l.eraseIdx i++ [[]]:=by rw[he,show i+1-i=1 by omega];rfl
   have e3:l.length- (i+1-i)=(l.eraseIdx i).length:=by rw[hle];omega
   rw[e2,e3] at hd;exact hd)
 simpa using this
theorem zYi {h:Heap} {id j:Nat} {cs:List D} {o:Obj} (hj:j≠id) (hr:h.at' j=some o):(h.frz id cs).at' j=some (zcQ id cs o):=by
 show(if j=id then none else(h.at' j).map (zcQ id cs))=_
 rw[if_neg hj,hr];rfl
theorem wN {h:Heap} {id j:Nat} {cs row:List D} (hj:j≠id) (hr:h.at' j=some (.row row)) (hb:zB5 id cs row=row):(h.frz id cs).at' j=some (.row row):=by
 rw[zYi hj hr];show some (Obj.row (zB5 id cs row))=_;rw[hb]
theorem zOS {id:Nat} {xs:List (List UInt8)} {rest:List D} :frz id (xs.map sdd++rest) (.rs id 1 0 xs.length)= .sl 1 (zx xs) .no:=zRo (xs:=zx xs) zCj (zH _) (by rw[zD6])
theorem zSj {id j:Nat} {cs:List D} {sz off len:Nat} (h:j≠id):frz id cs (.rs j sz off len)= .rs j sz off len:=by
 simp only[frz];rw[if_neg fun q=>h q.1]
section
variable {f:FuncId} {ac:List D} {h:Heap} {Q:D→Heap→Prop} {A B:Nat} {xa xb:List (List UInt8)} {ra rb:List D} {a1 a2 a3 a4:D}
theorem zA.noteAB (hac:zZ 0 ac) (hAB:B≠A) (hA:h.at' A=some (.row (xa.map sdd++ra))) (hB:h.at' B=some (.row (xb.map sdd++rb))) (hb:zZ 0 (xb.map sdd++rb)) (b3:below 0 a3) (b4:below 0 a4)
  (hv:zA Tryz.prog f [.agg [.sl 1 (zx xa) .no, .sl 1 (zx xb) .no,a3,a4], .iptr ac 0] ((h.frz A (xa.map sdd++ra)).frz B (xb.map sdd++rb)) Q):zA Tryz.prog f [.agg [.rs A 1 0 xa.length, .rs B 1 0 xb.length,a3,a4], .iptr ac 0] h Q:=by
 refine zA.argsFrz hA ?_;show zA _ _ [.agg [frz A _ (.rs A 1 0 xa.length),frz A _ (.rs B 1 0 xb.length),frz A _ a3,frz A _ a4], .iptr (zB5 A _ ac) 0] _ _;rw[zOS,zSj hAB,yF _ _ _ b3,yF _ _ _ b4,zo _ _ _ hac];refine zA.argsFrz (wN hAB hB (zo _ _ _ hb)) ?_;show zA _ _ [.agg [frz B _ (.sl 1 (zx xa) .no),frz B _ (.rs B 1 0 xb.length),frz B _ a3,frz B _ a4], .iptr (zB5 B _ ac) 0] _ _;rw[zOS,yF _ _ _ b3,yF _ _ _ b4,zo _ _ _ hac,yF _ _ (.sl 1 (zx xa) .no) (zt (Nat.zero_le _) _ (yS (sz:=1) yf .no).2)];exact hv
theorem zA.noteB (hac:zZ 0 ac) (hB:h.at' B=some (.row (xb.map sdd++rb))) (b1:below 0 a1) (b3:below 0 a3) (b4:below 0 a4)
  (hv:zA Tryz.prog f [.agg [a1, .sl 1 (zx xb) .no,a3,a4], .iptr ac 0] (h.frz B (xb.map sdd++rb)) Q):zA Tryz.prog f [.agg [a1, .rs B 1 0 xb.length,a3,a4], .iptr ac 0] h Q:=by
 refine zA.argsFrz hB ?_;show zA _ _ [.agg [frz B _ a1,frz B _ (.rs B 1 0 xb.length),frz B _ a3,frz B _ a4], .iptr (zB5 B _ ac) 0] _ _;rw[zOS,yF _ _ _ b1,yF _ _ _ b3,yF _ _ _ b4,zo _ _ _ hac];exact hv
theorem zA.noteD (hac:zZ 0 ac) (hB:h.at' B=some (.row (xb.map sdd++rb))) (b1:below 0 a1) (b2:below 0 a2) (b3:below 0 a3)
  (hv:zA Tryz.prog f [.agg [a1,a2,a3, .sl 1 (zx xb) .no], .iptr ac 0] (h.frz B (xb.map sdd++rb)) Q):zA Tryz.prog f [.agg [a1,a2,a3, .rs B 1 0 xb.length], .iptr ac 0] h Q:=by
 refine zA.argsFrz hB ?_;show zA _ _ [.agg [frz B _ a1,frz B _ a2,frz B _ a3,frz B _ (.rs B 1 0 xb.length)], .iptr (zB5 B _ ac) 0] _ _;rw[zOS,yF _ _ _ b1,yF _ _ _ b2,yF _ _ _ b3,zo _ _ _ hac];exact hv
end
theorem zfg {c:Cat} {fs:List Fac} {y:Cho} {ca cb ce cp x ta oa ld m1 m2 m3 m4:D} (I:CIn c fs y (.agg [ca,cb,ce,cp]) x (.agg [ta,oa])) {l:List Con} (hl:zX 8 (cons l) ld) (hln:l.length≤1048576) (hlo:∀x∈l,x.Ok) {out:List UInt8} (h0:zDV c fs y l out=0) {n:Note} {b1 b2 b3 b4:D} (hb:zC4 n (.agg [b1,b2,b3,b4])) (hsm:n.ls.length≤1048576∧n.ts.length≤1048576∧n.hs.length≤1048576∧n.cs.length≤1048576) (g:Heap):
  zA Tryz.prog 25 [.agg [b1,b2,b3,b4], .iptr [ca,cb,ce,cp,x,ta,oa,ld, .str out,m1,m2,m3,m4] 0] g fun r h'=>h'=g∧r= .int .i64 ((zHq c l n (zEV (zFT c fs y) out)).length:Int):=by
 have hm:=fun h=>zSi I hl hln hlo out hb hsm h;have p0:zW true 4 [ca,cb,ce,cp,x,ta,oa,ld, .str out,m1,m2,m3,m4] 0=some (.agg [ca,cb,ce,cp]):=by simp[zW]
 have p5:zW true 2 [ca,cb,ce,cp,x,ta,oa,ld, .str out,m1,m2,m3,m4] 5=some (.agg [ta,oa]):=by simp[zW]
 have hvN:zW true 4 [b1,b2,b3,b4] 0=some (.agg [b1,b2,b3,b4]):=zB rfl (by omega);rw[h0] at hm;refine zA.of_fn (g:=zXT) mix Tryz.func25 zho rfl rfl ?_;simp only[Tryz.f25,gJ]
 repeat' first|simp only[go_sem,zgo, *]|apply bc<;>intro hc
 refine(hm _).mono ?_;rintro r h1 ⟨hq,l0,rfl,hF⟩;subst hq;have hll:=zOR (hF rfl).isSl;clear hm hF
 repeat' first|simp only[go_sem,zgo, *]|apply bc<;>intro hc
theorem zV2 {l:List (List UInt8)} (h:Inc l) {i j:Nat} (hi:i<l.length) (hj:j<l.length) (hij:i≠j):l[i]≠l[j]:=fun e=>by
 have hp:=List.pairwise_iff_getElem.1 h;rcases Nat.lt_or_gt_of_ne hij with q|q
 ·have:=hp i j hi hj q;rw[e] at this;exact zD7 _ this
 ·have:=hp j i hj hi q;rw[e] at this;exact zD7 _ this
theorem zLi {l:List (List UInt8)} (h:Inc l) {i:Nat} (hi:i<l.length):l[i]∉l.eraseIdx i:=fun hm=>by
 obtain⟨j,hj,hne,e⟩:=List.mem_eraseIdx_iff_getElem.1 hm;exact zV2 h hj hi hne e
structure MkP (c:Cat) (l:List Con) (out:List UInt8) (F:List Due):Prop where
 lic:∀s∈zEQ F,∃x∈c.ls,wd c s=some x∧x.name=s∧s.length≤1048576
 ok:∀v∈F,okN out v=true
section
variable {c:Cat} {l:List Con} {out:List UInt8} {F:List Due} (P:MkP c l out F)
include P
theorem zcM:zHq c l (mkN c l F) F= []:=by
 refine List.filter_eq_nil_iff.2 fun v hv=> ?_;have hon:=P.ok v hv;unfold okN at hon;simp only[Bool.and_eq_true,Bool.or_eq_true,beq_iff_eq] at hon;obtain⟨_,hd⟩:=hon
 have:zPR c l (mkN c l F) v=true:=by
  unfold zPR;rcases hd with(hd|hd)|hd
  ·rw[hd,if_pos (by decide)];have hm:v.2.2.1∈zEQ F:=List.mem_map.2 ⟨v,List.mem_filter.2 ⟨hv,by rw[hd];rfl⟩,rfl⟩;obtain⟨k,_,hk,hn,_⟩:=P.lic _ hm;obtain⟨i,hi,e⟩:=List.mem_iff_getElem.1 (yU.2 hm);have hf:fnd c v.2.2.1=k:=by unfold fnd;rw[hk]
   unfold zZR;rw[hf];refine zIl (n:=mkN c l F) (i:=i) hi (by show i<((zp (zEQ F)).map (zJ2 c)).length;rw[List.length_map];exact hi) ?_;have e2:((zp (zEQ F)).map (zJ2 c))[i]'(by rw[List.length_map];exact hi)=k.text:=by
    rw[List.getElem_map,e];unfold zJ2;rw[hk]
   show((zp (zEQ F))[i]==k.name&&((zp (zEQ F)).map (zJ2 c))[i]'(by rw[List.length_map];exact hi)==k.text)=true;rw[e2,e,hn];simp
  ·rw[hd,if_neg (by decide),if_pos (by decide)];unfold zff
   have:((zPM l v.2.1).any fun s=> !(mkN c l F).hs.any (· ==s))=false:=by
    rw[List.any_eq_false];intro s hs
    have:s∈zp (zKA l F):=yU.2 (List.mem_flatMap.2 ⟨v,List.mem_filter.2 ⟨hv,by rw[hd];rfl⟩,hs⟩)
    have:(mkN c l F).hs.any (· ==s)=true:=List.any_eq_true.2 ⟨s,this,by simp⟩;rw[this];decide
   rw[this];rfl
  ·rw[hd,if_neg (by decide),if_neg (by decide)]
   have:v.2.1∈zp (zKB F):=yU.2 (List.mem_map.2 ⟨v,List.mem_filter.2 ⟨hv,by rw[hd];rfl⟩,rfl⟩);exact List.any_eq_true.2 ⟨_,this,by simp⟩
 rw[this];decide
omit P in
theorem zM1 {n:Note} {v:Due} (hv:v∈F) (h:zPR c l n v=false):decide (((zHq c l n F).length:Int)>0)=true:=by
 have:v∈zHq c l n F:=List.mem_filter.2 ⟨hv,by rw[h];rfl⟩;have:=List.length_pos_of_mem this;exact decide_eq_true (by omega)
theorem zSk {i:Nat} (hi:i<(mkN c l F).ls.length):∃v∈F,∃k,v.2.2.2.2.2.2=0∧v.2.2.1=(mkN c l F).ls[i]∧fnd c v.2.2.1=k∧k.name=(mkN c l F).ls[i]∧∀ (h:i<(mkN c l F).ts.length),(mkN c l F).ts[i]=k.text:=by
 have hm:(zp (zEQ F))[i]'hi∈zEQ F:=yU.1 (List.getElem_mem hi);obtain⟨v,hv,e⟩:=List.mem_map.1 hm;obtain⟨hv,e0⟩:=List.mem_filter.1 hv;obtain⟨k,_,hk,hn,_⟩:=P.lic _ hm;refine⟨v,hv,k,by simpa using e0,e,?_,hn,fun h=> ?_⟩
 ·rw[e];unfold fnd;rw[hk]
 ·show((zp (zEQ F)).map (zJ2 c))[i]'h=k.text;have e3:zJ2 c ((zp (zEQ F))[i]'hi)=k.text:=by unfold zJ2;rw[hk]
  exact Eq.trans (List.getElem_map (zJ2 c)) e3
theorem zUY {i:Nat} (hi:i<(mkN c l F).ls.length) {n:Note} (h1:n.ls=(mkN c l F).ls.eraseIdx i):decide (((zHq c l n F).length:Int)>0)=true:=by
 obtain⟨v,hv,k,v0,v1,v2,v3,_⟩:=zSk P hi;refine zM1 hv ?_;unfold zPR;rw[v0,if_pos (by decide)];unfold zZR;rw[v2];refine zE2 fun j hj hj2=> ?_
 have:n.ls[j]∈(mkN c l F).ls.eraseIdx i:=by rw[←h1];exact List.getElem_mem hj
 have hne:n.ls[j]≠k.name:=fun e=>by
  rw[e,v3] at this;exact zLi (zDJ _) hi this
 show(n.ls[j]==k.name&&_)=false;rw[show(n.ls[j]==k.name)=false by simpa using hne];rfl
theorem zSl {i:Nat} (hi:i<(mkN c l F).ls.length) (hi2:i<(mkN c l F).ts.length) {n:Note} (h1:n.ls=(mkN c l F).ls) (h2:n.ts=(mkN c l F).ts.set i ((mkN c l F).ts[i]++ [120])):decide (((zHq c l n F).length:Int)>0)=true:=by
 obtain⟨v,hv,k,v0,v1,v2,v3,v4⟩:=zSk P hi;refine zM1 hv ?_;unfold zPR;rw[v0,if_pos (by decide)];unfold zZR;rw[v2];obtain⟨nl,nt,nh,nc⟩:=n;simp only at h1 h2;subst h1 h2;refine zE2 fun j hj hj2=> ?_;by_cases e:j=i
 ·subst e;show(_&&((mkN c l F).ts.set j ((mkN c l F).ts[j]++ [120]))[j]==k.text)=false;rw[List.getElem_set_self,v4 hi2]
  have:(k.text++ [120]==k.text)=false:=by
   rw[beq_eq_false_iff_ne];intro q;have:=congrArg List.length q;simp at this
  rw[this,Bool.and_false]
 ·have hne:(mkN c l F).ls[j]≠k.name:=by
   rw[v3];exact zV2 (zDJ _) hj hi e
  show((mkN c l F).ls[j]==k.name&&_)=false;rw[show((mkN c l F).ls[j]==k.name)=false by simpa using hne];rfl
omit P in
theorem zUZ {i:Nat} (hi:i<(mkN c l F).cs.length) {n:Note} (h1:n.cs=(mkN c l F).cs.eraseIdx i):decide (((zHq c l n F).length:Int)>0)=true:=by
 have hm:(zp (zKB F))[i]'hi∈zKB F:=yU.1 (List.getElem_mem hi);obtain⟨v,hv,e⟩:=List.mem_map.1 hm;obtain⟨hv,e0⟩:=List.mem_filter.1 hv;have v0:v.2.2.2.2.2.2=2:=by simpa using e0
 refine zM1 hv ?_;unfold zPR;rw[v0,if_neg (by decide),if_neg (by decide),List.any_eq_false];intro s hs;rw[h1] at hs;intro q;have q:s=v.2.1:=by simpa using q
 rw[q,e] at hs;exact zLi (zDJ _) hi hs
end
theorem zcN {n:Nat} (hn:n≤255):wU Tryz.prog 5 3 (.int .u8 (n:Int))=some (.int .i64 (n:Int)):=by
 simp only[wU,Tryz.underlying5,Tryz.underlying3];rw[zw (by omega) (by omega)]
theorem zF6 {n m:Nat} (hm:m≠0):zAH .rem .i64 .i64 (n:Int) (m:Int)=some (.int .i64 ((n%m:Nat):Int)):=by
 have b0:¬(m:Int)=0:=by omega
 have b1:(n:Int).tmod (m:Int)=((n%m:Nat):Int):=by rw[Int.tmod_eq_emod_of_nonneg (by omega)];rfl
 simp only[zAH,zLm,if_true];rw[if_neg b0,b1]
theorem zBz:∀ (l:List (List UInt8)) {r:List D},zZ 0 r→zZ 0 (l.map sdd++r)
 | [],_,h=>h
 |_::l,_,h=>⟨trivial,zBz l h⟩
theorem zBA (l:List (List UInt8)):zZ 0 (l.map sdd):=by
 have:=zBz l (r:=[]) trivial;rw[List.append_nil] at this;exact this
theorem zIm:zZ 0 [sdd []]:=⟨trivial,trivial⟩
set_option maxHeartbeats 32000000 in
theorem zHU {c:Cat} {ca cb ce cp x ta oa ld m1 m2 m3 m4:D} (hc:qw c (.agg [ca,cb,ce,cp])) (hs:c.Sm) {fs:List Fac} (hx:zX 12 (zJ9 fs) x) (hln:fs.length≤1048576) (hok:∀f∈fs,f.Ok0) {y:Cho} (hy:zMr y (.agg [ta,oa])) (hys:y.Sm) {l:List Con} (hl:zX 8 (cons l) ld) (hn:l.length≤1048576) (hlo:∀x∈l,x.Ok) (out:List UInt8) (hac:zZ 0 [ca,cb,ce,cp,x,ta,oa,ld, .str out,m1,m2,m3,m4]) {kk:Nat} (hk:kk≤255) (g:Heap):
  zA Tryz.prog 5 [.agg [ca,cb,ce,cp,x,ta,oa,ld, .str out,m1,m2,m3,m4], .int .u8 (kk:Int)] g fun r _=>r= .bool true:=by
 refine zA.post fun Q hQ=> ?_;have hT:∀h,Q (.bool true) h:=fun h=>hQ _ _ rfl;have haw:=zFc;have hfw:=fun h=>zYW hc hs hx hln hok hy hys hl hn hlo out h;have p0:zW true 4 [ca,cb,ce,cp,x,ta,oa,ld, .str out,m1,m2,m3,m4] 0=some (.agg [ca,cb,ce,cp]):=by simp[zW]
 have p5:zW true 2 [ca,cb,ce,cp,x,ta,oa,ld, .str out,m1,m2,m3,m4] 5=some (.agg [ta,oa]):=by simp[zW]
 have hcv:=zcN hk;clear hQ;refine zA.of_fn (g:=zeD) mix Tryz.func5 ok5 rfl rfl ?_;simp only[Tryz.f5,gJ]
 repeat' first|simp only[go_sem,mu5, *]|apply bc<;>intro hc|(refine zA.mono (haw _) ?_;rintro r h ⟨rfl,hq⟩)
 refine(hfw _).mono ?_;rintro r h ⟨hq,b,rfl,hF⟩;subst hq;clear haw hfw;cases b with
 |false=>
  clear hF
  repeat' first|simp only[go_sem,mu5, *]|apply bc<;>intro hc
 |true=>
 obtain⟨hF,h25⟩:=hF rfl;have hok1:∀f∈fs,f.Ok:=fun f hf=>(hok f hf).ok (hF.2 f hf);have I:CIn c fs y (.agg [ca,cb,ce,cp]) x (.agg [ta,oa]):=⟨hc,hs,hx,hln,hF.1.1,hok1,hy,hys⟩;have hmk:=fun h=>zcL I hl hn hlo h25 out h;have hmz:zER c fs y l out≠0→zJ3 c fs y l out=Note.zero':=fun q=>by unfold zJ3;rw[if_neg (by simpa using q)]
 clear hF h25;obtain⟨N,hN⟩:∃N,zJ3 c fs y l out=N:=⟨_,rfl⟩;obtain⟨me,hme1⟩:∃e,zER c fs y l out=e:=⟨_,rfl⟩;rw[hN,hme1] at hmk hmz
 repeat' first|simp only[go_sem,mu5, *]|apply bc<;>intro hc
 refine(hmk _).mono ?_;rintro r h2 ⟨hq,r0,rfl,⟨a1,a2,a3,a4,rfl,ha1,ha2,ha3,ha4⟩,b1,b2,b3,b4,_⟩;subst hq;clear hmk;have hv4:∀a b c e:D,zW true 4 [a,b,c,e] 0=some (.agg [a,b,c,e]):=fun a b c e=>zB rfl (by omega);have F1:=(z7 ha1).2.2;have F2:=(z7 ha2).2.2;have F3:=(z7 ha3).2.2;have F4:=(z7 ha4).2.2;have hstN:zS Tryz.prog 36 (.ptr h2.next 0) (.agg [a1,a2,a3,a4]) (h2.new h2.next (.row nl4))=some (h2.new h2.next (.row [a1,a2,a3,a4])):=zg zFG (by omega) rfl rfl (by show(a1.flat&&(a2.flat&&(a3.flat&&(a4.flat&&true))))=true;rw[F1,F2,F3,F4];rfl);obtain⟨n0,hn0⟩:∃n,h2.next=n:=⟨_,rfl⟩;rw[hn0] at hstN
 obtain⟨G0,hG0,rG0_n0,hG0n⟩:∃G,h2.new n0 (.row [a1,a2,a3,a4])=G∧G.at' n0=some (.row [a1,a2,a3,a4])∧G.next=n0+1:=⟨_,rfl,zR _ _ _,by rw[←hn0,zP]⟩;rw[hG0] at hstN;have oG0_n0:n0<G0.next:=by omega
 cases me0:(me==0) with
 |false=>
  have hme:me≠0:=by simpa using me0
  have hNz:=hmz hme;subst hNz;have hb0:yi Tryz.prog 36 []=some (.agg nl4):=by simp[yi,zIH,zNP,wT,D.notTuple,D.cells]
  have hsa:=fun h=>zbz (x:= .agg [a1,a2,a3,a4]) (y:= .agg nl4) ⟨_,_,_,_,rfl,ha1,ha2,ha3,ha4⟩ ⟨_,_,_,_,rfl,zX.nil,zX.nil,zX.nil,zX.nil⟩ ⟨⟨Nat.zero_le _,fun s h=>by cases h⟩,⟨Nat.zero_le _,fun s h=>by cases h⟩,⟨Nat.zero_le _,fun s h=>by cases h⟩,⟨Nat.zero_le _,fun s h=>by cases h⟩⟩ h;clear hmz ha1 ha2 ha3 ha4 hl hlo I hok1 hc hs hx hok hy hys hN hme1 oG0_n0 hac
  repeat' first|simp only[go_sem,mu5, *]|apply bc<;>intro hc|(refine zA.mono (hsa _) ?_;rintro r h ⟨hq,rfl⟩)
 |true=>
 have hme:me=0:=by simpa using me0
 subst hme;clear hmz me0;obtain⟨e1,hck0⟩:=zLh hme1;have hnd0:zDV c fs y l out=0:=by
  cases q:(zDV c fs y l out==0) with
  |true=>simpa using q
  |false=>
   unfold zER at hme1;rw[q] at hme1;exact hme1
 have hcat:=zBx (zCb e1 I.ysm).case;have hsm:=zSc (y:=y) (out:=out) hcat hs hok1 hlo;have hNm:N=mkN c l (zEV (zFT c fs y) out):=by rw[←hN];unfold zJ3;rw[hme1];rfl
 have hP:MkP c l out (zEV (zFT c fs y) out):=⟨hsm.1,fun v hv=>(List.mem_filter.1 hv).2⟩;have hlen:=zPQ hck0;have hts:∀s∈N.ts,s.length≤1048576:=by
  rw[hNm];intro s hs2;obtain⟨s0,h0,rfl⟩:=List.mem_map.1 hs2;obtain⟨k,hkm,hk,_,_⟩:=hsm.1 s0 (yU.1 h0);unfold zJ2;rw[hk];exact(hs.ls.2 k hkm).2.2
 have hck:=fun h=>zON (n:=N) (d:= .agg [a1,a2,a3,a4]) ⟨_,_,_,_,rfl,ha1,ha2,ha3,ha4⟩ (by
  rw[hNm];intro s hs2;obtain⟨_,_,_,_,q⟩:=hsm.1 s (yU.1 hs2);exact q) hts (by rw[hNm];exact fun s q=>hsm.2.1 s (yU.1 q)) (by rw[hNm];exact fun s q=>hsm.2.2 s (yU.1 q)) h
 rw[←hNm] at hck0 hlen;rw[hck0] at hck;have hTL:N.ts.length=N.ls.length:=by rw[hNm];exact List.length_map _
 have hmis:=fun {n:Note} {b1 b2 b3 b4:D} (hb:zC4 n (.agg [b1,b2,b3,b4])) hsm h=>zfg (m1:=m1) (m2:=m2) (m3:=m3) (m4:=m4) I hl hn hlo hnd0 hb hsm h;have hful:=zcM hP;have hnoL:=fun {i:Nat} hi {n:Note} h1=>zUY hP (i:=i) hi (n:=n) h1;have hnoT:=fun {i:Nat} hi hi2 {n:Note} h1 h2=>zSl hP (i:=i) hi hi2 (n:=n) h1 h2;have hnoC:=fun {i:Nat} hi {n:Note} h1=>zUZ (c:=c) (l:=l) (F:=zEV (zFT c fs y) out) (i:=i) hi (n:=n) h1;rw[←hNm] at hful;rw[←hNm] at hnoL hnoT hnoC;generalize zEV (zFT c fs y) out=F at *
 clear hP hsm hNm hN hme1 I hc hs hx hok hok1 hy hys hl hn hlo hck0 hnd0 e1 hcat hln;have hm0:∀h,zA Tryz.prog 25 [.agg [a1,a2,a3,a4], .iptr [ca,cb,ce,cp,x,ta,oa,ld, .str out,m1,m2,m3,m4] 0] h fun r h'=>h'=h∧r= .int .i64 0:=fun h=>by
  have:=hmis (n:=N) ⟨_,_,_,_,rfl,ha1,ha2,ha3,ha4⟩ (by omega) h;rw[hful] at this;exact this
 obtain⟨LS,TS,HS,CS⟩:=N;simp only at ha1 ha2 ha3 ha4 hTL hnoL hnoT hnoC hlen hts;have t1:=yG ha1;have t2:=yG ha2;have t4:=yG ha4;have ts0:((LS.length:Int)==(LS.length:Int))=true:=by simp
 have tail:∀H:Heap,H.at' n0=some (.row [a1,a2,a3,a4])→n0<H.next→∀ {j:Nat},j<CS.length→∃n6 H1 H2 H3 H4,∃X:Int,∃M:Nat,H.next=n6∧(zA Tryz.prog 28 [a4] H fun r h'=>h'=H1∧r= .rs n6 1 0 CS.length)∧(zA Tryz.prog 27 [.rs n6 1 0 CS.length, .int .i64 (j:Int), .int .i64 ((j+1:Nat):Int)] H1 fun r h'=>h'=H2∧r= .rs n6 1 0 M)∧zS Tryz.prog 31 (.ptr n0 3) (.rs n6 1 0 M) H2=some H3∧H3.at' n0=some (.row [a1,a2,a3, .rs n6 1 0 M])∧(zA Tryz.prog 25 [.agg [a1,a2,a3, .rs n6 1 0 M], .iptr [ca,cb,ce,cp,x,ta,oa,ld, .str out,m1,m2,m3,m4] 0] H3 fun r h'=>h'=H4∧r= .int .i64 X)∧decide (X>0)=true:=by
  intro H r0 o0 j hj;have hne:CS≠[]:=fun e=>by rw[e] at hj;exact Nat.not_lt_zero _ hj
  obtain⟨n6,hn6⟩:∃n,H.next=n:=⟨_,rfl⟩;have cl:=zA8 ha4 hne (by omega) H;obtain⟨H1,eH1,xH1,r16,k1⟩:=yh H (.row (CS.map sdd));rw[hn6] at cl eH1 xH1 r16;rw[eH1] at cl;have r10:H1.at' n0=some (.row [a1,a2,a3,a4]):=by rw[k1.2 _ (by omega)];exact r0
  have dl:=zET (l:=CS) (id:=n6) (i:=j) (h:=H1) hj (by omega) r16;obtain⟨H2,eH2⟩:∃G,H1.set n6 (.row ((CS.eraseIdx j).map sdd++ [sdd []]))=G:=⟨_,rfl⟩;rw[eH2] at dl;have r20:H2.at' n0=some (.row [a1,a2,a3,a4]):=by rw[←eH2,zC (by omega)];exact r10
  have r26:H2.at' n6=some (.row ((CS.eraseIdx j).map sdd++ [sdd []])):=by rw[←eH2];exact zD _ _ _
  obtain⟨H3,eH3⟩:∃G,H2.set n0 (.row [a1,a2,a3, .rs n6 1 0 (CS.eraseIdx j).length])=G:=⟨_,rfl⟩;have st:zS Tryz.prog 31 (.ptr n0 3) (.rs n6 1 0 (CS.eraseIdx j).length) H2=some H3:=by rw[zM r20 zAO (by simp) rfl rfl,←eH3];rfl
  have r30:H3.at' n0=some (.row [a1,a2,a3, .rs n6 1 0 (CS.eraseIdx j).length]):=by rw[←eH3];exact zD _ _ _
  have r36:H3.at' n6=some (.row ((CS.eraseIdx j).map sdd++ [sdd []])):=by rw[←eH3,zC (by omega)];exact r26
  have hle:(CS.eraseIdx j).length≤CS.length:=List.length_eraseIdx_le ..;have hm:=hmis (n:=⟨LS,TS,HS,CS.eraseIdx j⟩) (b1:=a1) (b2:=a2) (b3:=a3) (b4:= .sl 1 (zx (CS.eraseIdx j)) .no) ⟨_,_,_,_,rfl,ha1,ha2,ha3,zX.mk _⟩ (by show LS.length≤1048576∧TS.length≤1048576∧HS.length≤1048576∧(CS.eraseIdx j).length≤1048576;omega) (H3.frz n6 ((CS.eraseIdx j).map sdd++ [sdd []]));exact⟨n6,H1,H2,H3,_,_,_,hn6,cl.mono fun r h q=>⟨q.2,q.1⟩,dl.mono fun r h q=>⟨q.2,q.1⟩,st,r30,zA.noteD hac r36 b1 b2 b3 hm,hnoC hj rfl⟩
 cases c0:((CS.length:Int)==0) with
 |true=>
  clear tail;cases l0:decide ((LS.length:Int)>0) with
  |false=>
   clear hmis hnoL hnoT hnoC hts
   repeat' first|simp only[go_sem,mu5, *]|apply bc<;>intro hc|(refine zA.mono (hm0 _) ?_;rintro r h ⟨hq,rfl⟩)|(refine zA.mono (hck _) ?_;rintro r h ⟨hq2,rfl⟩)
  |true=>
   have h0:LS.length≠0:=by have:=of_decide_eq_true l0;omega
   have ts1:((TS.length:Int)==(LS.length:Int))=true:=by rw[hTL];simp
   have hne1:LS≠[]:=fun e=>by rw[e] at h0;exact h0 rfl
   have hne2:TS≠[]:=fun e=>by rw[e] at hTL;exact h0 hTL.symm
   obtain⟨i,hi⟩:∃i,kk%LS.length=i:=⟨_,rfl⟩;have hi1:i<LS.length:=by rw[←hi];exact Nat.mod_lt _ (by omega)
   have hi2:i<TS.length:=by omega
   have hrL:=zF6 (n:=kk) (m:=LS.length) h0;rw[hi] at hrL;have ewi:IntKind.i64.wrap ((i:Int)+1)=((i+1:Nat):Int):=ze (by unfold lim;omega);obtain⟨n1,hidn1⟩:∃n,G0.next=n:=⟨_,rfl⟩;obtain⟨G1,eG1,xG1,rG1_n1,kG1⟩:=yh G0 (.row ([a1,a2,a3,a4]));rw[hidn1] at eG1 xG1 rG1_n1;have rG1_n0:G1.at' n0=some (.row ([a1,a2,a3,a4])):=by rw[kG1.2 _ (by omega)];exact rG0_n0
   have lG1_n0:n0≠n1:=by omega
   have oG1_n0:n0<G1.next:=by omega
   have oG1_n1:n1<G1.next:=by omega
   have st1:zS Tryz.prog 36 (.ptr n1 0) (.agg [a1,a2,a3,a4]) (G0.new n1 (.row nl4))=some G1:=by rw[←eG1];exact zg zFG (by omega) rfl rfl (by show(a1.flat&&(a2.flat&&(a3.flat&&(a4.flat&&true))))=true;rw[F1,F2,F3,F4];rfl)
   obtain⟨n2,hidn2⟩:∃n,G1.next=n:=⟨_,rfl⟩;obtain⟨G2,eG2,xG2,rG2_n2,kG2⟩:=yh G1 (.row (LS.map sdd));rw[hidn2] at eG2 xG2 rG2_n2;have rG2_n0:G2.at' n0=some (.row ([a1,a2,a3,a4])):=by rw[kG2.2 _ (by omega)];exact rG1_n0
   have lG2_n0:n0≠n2:=by omega
   have rG2_n1:G2.at' n1=some (.row ([a1,a2,a3,a4])):=by rw[kG2.2 _ (by omega)];exact rG1_n1
   have lG2_n1:n1≠n2:=by omega
   have oG2_n0:n0<G2.next:=by omega
   have oG2_n1:n1<G2.next:=by omega
   have oG2_n2:n2<G2.next:=by omega
   have cl1:=zA8 ha1 hne1 (by omega) G1;rw[hidn2,eG2] at cl1;have dl1:=zET (l:=LS) (id:=n2) (i:=i) (h:=G2) hi1 (by omega) rG2_n2;obtain⟨G3,eG3⟩:∃H,G2.set n2 (.row ((LS.eraseIdx i).map sdd++ [sdd []]))=H:=⟨_,rfl⟩;have xG3:G3.next=G2.next:=by rw[←eG3,zY]
   have rG3_n0:G3.at' n0=some (.row ([a1,a2,a3,a4])):=by rw[←eG3,zC (by omega)];exact rG2_n0
   have rG3_n1:G3.at' n1=some (.row ([a1,a2,a3,a4])):=by rw[←eG3,zC (by omega)];exact rG2_n1
   have rG3_n2:G3.at' n2=some (.row ((LS.eraseIdx i).map sdd++ [sdd []])):=by rw[←eG3];exact zD _ _ _
   have oG3_n0:n0<G3.next:=by omega
   have oG3_n1:n1<G3.next:=by omega
   have oG3_n2:n2<G3.next:=by omega
   rw[eG3] at dl1;obtain⟨G4,eG4⟩:∃H,G3.set n1 (.row ([.rs n2 1 0 (LS.eraseIdx i).length,a2,a3,a4]))=H:=⟨_,rfl⟩;have xG4:G4.next=G3.next:=by rw[←eG4,zY]
   have rG4_n0:G4.at' n0=some (.row ([a1,a2,a3,a4])):=by rw[←eG4,zC (by omega)];exact rG3_n0
   have rG4_n1:G4.at' n1=some (.row ([.rs n2 1 0 (LS.eraseIdx i).length,a2,a3,a4])):=by rw[←eG4];exact zD _ _ _
   have rG4_n2:G4.at' n2=some (.row ((LS.eraseIdx i).map sdd++ [sdd []])):=by rw[←eG4,zC (by omega)];exact rG3_n2
   have oG4_n0:n0<G4.next:=by omega
   have oG4_n1:n1<G4.next:=by omega
   have oG4_n2:n2<G4.next:=by omega
   have st2:zS Tryz.prog 31 (.ptr n1 0) (.rs n2 1 0 (LS.eraseIdx i).length) G3=some G4:=by rw[zM rG3_n1 zAO (by simp) rfl rfl,←eG4];rfl
   obtain⟨n3,hidn3⟩:∃n,G4.next=n:=⟨_,rfl⟩;obtain⟨G5,eG5,xG5,rG5_n3,kG5⟩:=yh G4 (.row (TS.map sdd));rw[hidn3] at eG5 xG5 rG5_n3;have rG5_n0:G5.at' n0=some (.row ([a1,a2,a3,a4])):=by rw[kG5.2 _ (by omega)];exact rG4_n0
   have lG5_n0:n0≠n3:=by omega
   have rG5_n1:G5.at' n1=some (.row ([.rs n2 1 0 (LS.eraseIdx i).length,a2,a3,a4])):=by rw[kG5.2 _ (by omega)];exact rG4_n1
   have lG5_n1:n1≠n3:=by omega
   have rG5_n2:G5.at' n2=some (.row ((LS.eraseIdx i).map sdd++ [sdd []])):=by rw[kG5.2 _ (by omega)];exact rG4_n2
   have lG5_n2:n2≠n3:=by omega
   have oG5_n0:n0<G5.next:=by omega
   have oG5_n1:n1<G5.next:=by omega
   have oG5_n2:n2<G5.next:=by omega
   have oG5_n3:n3<G5.next:=by omega
   have cl2:=zA8 ha2 hne2 (by omega) G4;rw[hidn3,eG5] at cl2;have dl2:=zET (l:=TS) (id:=n3) (i:=i) (h:=G5) hi2 (by omega) rG5_n3;obtain⟨G6,eG6⟩:∃H,G5.set n3 (.row ((TS.eraseIdx i).map sdd++ [sdd []]))=H:=⟨_,rfl⟩;have xG6:G6.next=G5.next:=by rw[←eG6,zY]
   have rG6_n0:G6.at' n0=some (.row ([a1,a2,a3,a4])):=by rw[←eG6,zC (by omega)];exact rG5_n0
   have rG6_n1:G6.at' n1=some (.row ([.rs n2 1 0 (LS.eraseIdx i).length,a2,a3,a4])):=by rw[←eG6,zC (by omega)];exact rG5_n1
   have rG6_n2:G6.at' n2=some (.row ((LS.eraseIdx i).map sdd++ [sdd []])):=by rw[←eG6,zC (by omega)];exact rG5_n2
   have rG6_n3:G6.at' n3=some (.row ((TS.eraseIdx i).map sdd++ [sdd []])):=by rw[←eG6];exact zD _ _ _
   have oG6_n0:n0<G6.next:=by omega
   have oG6_n1:n1<G6.next:=by omega
   have oG6_n2:n2<G6.next:=by omega
   have oG6_n3:n3<G6.next:=by omega
   rw[eG6] at dl2;obtain⟨G7,eG7⟩:∃H,G6.set n1 (.row ([.rs n2 1 0 (LS.eraseIdx i).length, .rs n3 1 0 (TS.eraseIdx i).length,a3,a4]))=H:=⟨_,rfl⟩;have xG7:G7.next=G6.next:=by rw[←eG7,zY]
   have rG7_n0:G7.at' n0=some (.row ([a1,a2,a3,a4])):=by rw[←eG7,zC (by omega)];exact rG6_n0
   have rG7_n1:G7.at' n1=some (.row ([.rs n2 1 0 (LS.eraseIdx i).length, .rs n3 1 0 (TS.eraseIdx i).length,a3,a4])):=by rw[←eG7];exact zD _ _ _
   have rG7_n2:G7.at' n2=some (.row ((LS.eraseIdx i).map sdd++ [sdd []])):=by rw[←eG7,zC (by omega)];exact rG6_n2
   have rG7_n3:G7.at' n3=some (.row ((TS.eraseIdx i).map sdd++ [sdd []])):=by rw[←eG7,zC (by omega)];exact rG6_n3
   have oG7_n0:n0<G7.next:=by omega
   have oG7_n1:n1<G7.next:=by omega
   have oG7_n2:n2<G7.next:=by omega
   have oG7_n3:n3<G7.next:=by omega
   have st3:zS Tryz.prog 31 (.ptr n1 1) (.rs n3 1 0 (TS.eraseIdx i).length) G6=some G7:=by rw[zM rG6_n1 zAO (by simp) rfl rfl,←eG7];rfl
   obtain⟨n4,hidn4⟩:∃n,G7.next=n:=⟨_,rfl⟩;obtain⟨G8,eG8,xG8,rG8_n4,kG8⟩:=yh G7 (.row ([a1,a2,a3,a4]));rw[hidn4] at eG8 xG8 rG8_n4;have rG8_n0:G8.at' n0=some (.row ([a1,a2,a3,a4])):=by rw[kG8.2 _ (by omega)];exact rG7_n0
   have lG8_n0:n0≠n4:=by omega
   have rG8_n1:G8.at' n1=some (.row ([.rs n2 1 0 (LS.eraseIdx i).length, .rs n3 1 0 (TS.eraseIdx i).length,a3,a4])):=by rw[kG8.2 _ (by omega)];exact rG7_n1
   have lG8_n1:n1≠n4:=by omega
   have rG8_n2:G8.at' n2=some (.row ((LS.eraseIdx i).map sdd++ [sdd []])):=by rw[kG8.2 _ (by omega)];exact rG7_n2
   have lG8_n2:n2≠n4:=by omega
   have rG8_n3:G8.at' n3=some (.row ((TS.eraseIdx i).map sdd++ [sdd []])):=by rw[kG8.2 _ (by omega)];exact rG7_n3
   have lG8_n3:n3≠n4:=by omega
   have oG8_n0:n0<G8.next:=by omega
   have oG8_n1:n1<G8.next:=by omega
   have oG8_n2:n2<G8.next:=by omega
   have oG8_n3:n3<G8.next:=by omega
   have oG8_n4:n4<G8.next:=by omega
   have st4:zS Tryz.prog 36 (.ptr n4 0) (.agg [a1,a2,a3,a4]) (G7.new n4 (.row nl4))=some G8:=by rw[←eG8];exact zg zFG (by omega) rfl rfl (by show(a1.flat&&(a2.flat&&(a3.flat&&(a4.flat&&true))))=true;rw[F1,F2,F3,F4];rfl)
   obtain⟨n5,hidn5⟩:∃n,G8.next=n:=⟨_,rfl⟩;obtain⟨G9,eG9,xG9,rG9_n5,kG9⟩:=yh G8 (.row (TS.map sdd));rw[hidn5] at eG9 xG9 rG9_n5;have rG9_n0:G9.at' n0=some (.row ([a1,a2,a3,a4])):=by rw[kG9.2 _ (by omega)];exact rG8_n0
   have lG9_n0:n0≠n5:=by omega
   have rG9_n1:G9.at' n1=some (.row ([.rs n2 1 0 (LS.eraseIdx i).length, .rs n3 1 0 (TS.eraseIdx i).length,a3,a4])):=by rw[kG9.2 _ (by omega)];exact rG8_n1
   have lG9_n1:n1≠n5:=by omega
   have rG9_n2:G9.at' n2=some (.row ((LS.eraseIdx i).map sdd++ [sdd []])):=by rw[kG9.2 _ (by omega)];exact rG8_n2
   have lG9_n2:n2≠n5:=by omega
   have rG9_n3:G9.at' n3=some (.row ((TS.eraseIdx i).map sdd++ [sdd []])):=by rw[kG9.2 _ (by omega)];exact rG8_n3
   have lG9_n3:n3≠n5:=by omega
   have rG9_n4:G9.at' n4=some (.row ([a1,a2,a3,a4])):=by rw[kG9.2 _ (by omega)];exact rG8_n4
   have lG9_n4:n4≠n5:=by omega
   have oG9_n0:n0<G9.next:=by omega
   have oG9_n1:n1<G9.next:=by omega
   have oG9_n2:n2<G9.next:=by omega
   have oG9_n3:n3<G9.next:=by omega
   have oG9_n4:n4<G9.next:=by omega
   have oG9_n5:n5<G9.next:=by omega
   have cl3:=zA8 ha2 hne2 (by omega) G8;rw[hidn5,eG9] at cl3;obtain⟨G10,eG10⟩:∃H,G9.set n4 (.row ([a1, .rs n5 1 0 TS.length,a3,a4]))=H:=⟨_,rfl⟩;have xG10:G10.next=G9.next:=by rw[←eG10,zY]
   have rG10_n0:G10.at' n0=some (.row ([a1,a2,a3,a4])):=by rw[←eG10,zC (by omega)];exact rG9_n0
   have rG10_n1:G10.at' n1=some (.row ([.rs n2 1 0 (LS.eraseIdx i).length, .rs n3 1 0 (TS.eraseIdx i).length,a3,a4])):=by rw[←eG10,zC (by omega)];exact rG9_n1
   have rG10_n2:G10.at' n2=some (.row ((LS.eraseIdx i).map sdd++ [sdd []])):=by rw[←eG10,zC (by omega)];exact rG9_n2
   have rG10_n3:G10.at' n3=some (.row ((TS.eraseIdx i).map sdd++ [sdd []])):=by rw[←eG10,zC (by omega)];exact rG9_n3
   have rG10_n4:G10.at' n4=some (.row ([a1, .rs n5 1 0 TS.length,a3,a4])):=by rw[←eG10];exact zD _ _ _
   have rG10_n5:G10.at' n5=some (.row (TS.map sdd)):=by rw[←eG10,zC (by omega)];exact rG9_n5
   have oG10_n0:n0<G10.next:=by omega
   have oG10_n1:n1<G10.next:=by omega
   have oG10_n2:n2<G10.next:=by omega
   have oG10_n3:n3<G10.next:=by omega
   have oG10_n4:n4<G10.next:=by omega
   have oG10_n5:n5<G10.next:=by omega
   have st5:zS Tryz.prog 31 (.ptr n4 1) (.rs n5 1 0 TS.length) G9=some G10:=by rw[zM rG9_n4 zAO (by simp) rfl rfl,←eG10];rfl
   obtain⟨G11,eG11⟩:∃H,G10.set n5 (.row ((TS.set i (TS[i]++ [120])).map sdd))=H:=⟨_,rfl⟩;have xG11:G11.next=G10.next:=by rw[←eG11,zY]
   have rG11_n0:G11.at' n0=some (.row ([a1,a2,a3,a4])):=by rw[←eG11,zC (by omega)];exact rG10_n0
   have rG11_n1:G11.at' n1=some (.row ([.rs n2 1 0 (LS.eraseIdx i).length, .rs n3 1 0 (TS.eraseIdx i).length,a3,a4])):=by rw[←eG11,zC (by omega)];exact rG10_n1
   have rG11_n2:G11.at' n2=some (.row ((LS.eraseIdx i).map sdd++ [sdd []])):=by rw[←eG11,zC (by omega)];exact rG10_n2
   have rG11_n3:G11.at' n3=some (.row ((TS.eraseIdx i).map sdd++ [sdd []])):=by rw[←eG11,zC (by omega)];exact rG10_n3
   have rG11_n4:G11.at' n4=some (.row ([a1, .rs n5 1 0 TS.length,a3,a4])):=by rw[←eG11,zC (by omega)];exact rG10_n4
   have rG11_n5:G11.at' n5=some (.row ((TS.set i (TS[i]++ [120])).map sdd)):=by rw[←eG11];exact zD _ _ _
   have oG11_n0:n0<G11.next:=by omega
   have oG11_n1:n1<G11.next:=by omega
   have oG11_n2:n2<G11.next:=by omega
   have oG11_n3:n3<G11.next:=by omega
   have oG11_n4:n4<G11.next:=by omega
   have oG11_n5:n5<G11.next:=by omega
   have st6:zS Tryz.prog 9 (.ptr n5 i) (.str (TS[i]++ [120])) G10=some G11:=by rw[zM rG10_n5 qF (by rw[List.length_map];exact hi2) rfl rfl,←eG11,List.map_set];rfl
   have hle1:(LS.eraseIdx i).length≤LS.length:=List.length_eraseIdx_le ..;have hle2:(TS.eraseIdx i).length≤TS.length:=List.length_eraseIdx_le ..;have hle3:(TS.set i (TS[i]++ [120])).length=TS.length:=List.length_set ..;obtain⟨G12,eG12⟩:∃H,(G11.frz n2 ((LS.eraseIdx i).map sdd++ [sdd []])).frz n3 ((TS.eraseIdx i).map sdd++ [sdd []])=H:=⟨_,rfl⟩
   have hmA:=zA.noteAB (f:=25) hac (by omega) rG11_n2 rG11_n3 (zBz _ zIm) b3 b4 (hmis (n:=⟨LS.eraseIdx i,TS.eraseIdx i,HS,CS⟩) ⟨_,_,_,_,rfl,zX.mk _,zX.mk _,ha3,ha4⟩ (by show(LS.eraseIdx i).length≤1048576∧(TS.eraseIdx i).length≤1048576∧HS.length≤1048576∧CS.length≤1048576;omega) _);rw[eG12] at hmA;have dA:=hnoL hi1 (n:=⟨LS.eraseIdx i,TS.eraseIdx i,HS,CS⟩) rfl;obtain⟨XA,hXA⟩:∃X:Int,((zHq c l ⟨LS.eraseIdx i,TS.eraseIdx i,HS,CS⟩ F).length:Int)=X:=⟨_,rfl⟩;rw[hXA] at hmA dA;have dA:decide (XA≤0)=false:=decide_eq_false (by have:=of_decide_eq_true dA;omega)
   have r12_0:G12.at' n0=some (.row [a1,a2,a3,a4]):=by rw[←eG12];exact wN (by omega) (wN (by omega) rG11_n0 (zo _ _ _ ⟨b1,b2,b3,b4,trivial⟩)) (zo _ _ _ ⟨b1,b2,b3,b4,trivial⟩)
   have r12_5:G12.at' n5=some (.row ((TS.set i (TS[i]++ [120])).map sdd++ [])):=by rw[←eG12,List.append_nil];exact wN (by omega) (wN (by omega) rG11_n5 (zo _ _ _ (zBA _))) (zo _ _ _ (zBA _))
   have fr4:∀ {id:Nat} {cs:List D},n5≠id→zB5 id cs [a1, .rs n5 1 0 TS.length,a3,a4]= [a1, .rs n5 1 0 TS.length,a3,a4]:=fun {id cs} h=>by simp only[zB5];rw[zSj h,yF _ _ _ b1,yF _ _ _ b3,yF _ _ _ b4]
   have r12_4:G12.at' n4=some (.row [a1, .rs n5 1 0 TS.length,a3,a4]):=by rw[←eG12];exact wN (by omega) (wN (by omega) rG11_n4 (fr4 (by omega))) (fr4 (by omega))
   obtain⟨G13,eG13⟩:∃H,G12.frz n5 ((TS.set i (TS[i]++ [120])).map sdd++ [])=H:=⟨_,rfl⟩;have hmB:=zA.noteB (f:=25) (a1:=a1) hac r12_5 b1 b3 b4 (hmis (n:=⟨LS,TS.set i (TS[i]++ [120]),HS,CS⟩) ⟨_,_,_,_,rfl,ha1,zX.mk _,ha3,ha4⟩ (by show LS.length≤1048576∧(TS.set i (TS[i]++ [120])).length≤1048576∧HS.length≤1048576∧CS.length≤1048576;omega) _);rw[eG13,hle3] at hmB;have dB:=hnoT hi1 hi2 (n:=⟨LS,TS.set i (TS[i]++ [120]),HS,CS⟩) rfl rfl;obtain⟨XB,hXB⟩:∃X:Int,((zHq c l ⟨LS,TS.set i (TS[i]++ [120]),HS,CS⟩ F).length:Int)=X:=⟨_,rfl⟩;rw[hXB] at hmB dB
   have dB:decide (XB≤0)=false:=decide_eq_false (by have:=of_decide_eq_true dB;omega);have r13_0:G13.at' n0=some (.row [a1,a2,a3,a4]):=by rw[←eG13];exact wN (by omega) r12_0 (zo _ _ _ ⟨b1,b2,b3,b4,trivial⟩)
   have o13_0:n0<G13.next:=by rw[←eG13,←eG12];exact oG11_n0
   have ix18:zN Tryz.prog 31 (.rs n5 1 0 TS.length) (.int .i64 (i:Int))=some (.ptr n5 i):=by
    have:=yn (P:=Tryz.prog) (sz:=1) (id:=n5) zm qF (k:= .i64) hi2;rw[Nat.mul_one] at this;exact this
   have ad18:zKD .add TS[i] [120]=some (.str (TS[i]++ [120])):=by have:=hts _ (List.getElem_mem hi2);simp only[zKD];exact if_pos (by simp only[List.length_singleton];unfold lim;omega)
   have ld18:(TS.map sdd)[i]? =some (.str TS[i]):=by rw[List.getElem?_map,List.getElem?_eq_getElem hi2];rfl
   clear rG1_n1 lG1_n0 rG2_n2 rG2_n0 lG2_n0 rG2_n1 lG2_n1 rG3_n1 rG3_n2 rG4_n1 rG4_n2 rG5_n3 rG5_n0 lG5_n0 rG5_n1 lG5_n1 rG5_n2 lG5_n2 rG6_n1 rG6_n2 rG6_n3 rG7_n1 rG7_n2 rG7_n3 rG8_n4 lG8_n0 rG8_n1 lG8_n1 rG8_n2 lG8_n2 rG8_n3 lG8_n3 rG9_n5 lG9_n0 rG9_n1 lG9_n1 rG9_n2 lG9_n2 rG9_n3 lG9_n3 rG9_n4 lG9_n4 rG10_n0 rG10_n1 rG10_n2 rG10_n3 rG11_n0 rG11_n2 rG11_n3 rG11_n4 rG11_n5 r12_5 hle1 hle2 hle3 hXA hXB fr4 eG12 eG13 hne1 hne2 hi hi1 eG1 eG2 eG3 eG4 eG5 eG6 eG7 eG8 eG9 eG10 eG11 kG1 kG2 kG5 kG8 kG9 xG1 xG2 xG3 xG4 xG5 xG6 xG7 xG8 xG9 xG10 xG11 hG0n hTL;clear hmis hnoL hnoT hnoC hts
   repeat' first|simp only[go_sem,mu5, *]|apply bc<;>intro hc|(refine zA.mono (hm0 _) ?_;rintro r h ⟨hq,rfl⟩)|(refine zA.mono (hck _) ?_;rintro r h ⟨hq2,rfl⟩)|(refine zA.mono cl1 ?_;rintro r h ⟨rfl,hq3⟩)|(refine zA.mono dl1 ?_;rintro r h ⟨rfl,hq4⟩)|(refine zA.mono cl2 ?_;rintro r h ⟨rfl,hq5⟩)|(refine zA.mono dl2 ?_;rintro r h ⟨rfl,hq6⟩)|(refine zA.mono cl3 ?_;rintro r h ⟨rfl,hq7⟩)|(refine zA.mono hmA ?_;rintro r h ⟨hq8,rfl⟩)|(refine zA.mono hmB ?_;rintro r h ⟨hq9,rfl⟩)
 |false=>
  have c0':¬CS.length=0:=fun e=>by rw[e] at c0;cases c0
  cases l0:decide ((LS.length:Int)>0) with
  |false=>
   obtain⟨j,hj⟩:∃j,kk%CS.length=j:=⟨_,rfl⟩;have hj1:j<CS.length:=by rw[←hj];exact Nat.mod_lt _ (by omega)
   have hrC:=zF6 (n:=kk) (m:=CS.length) (by omega);rw[hj] at hrC;have ewj:IntKind.i64.wrap ((j:Int)+1)=((j+1:Nat):Int):=ze (by unfold lim;omega);obtain⟨n6,H1,H2,H3,H4,X,M,hn6,tcl,tdl,tst,tr3,tm,td⟩:=tail G0 rG0_n0 oG0_n0 hj1;clear tail hmis hnoL hnoT hnoC
   repeat' first|simp only[go_sem,mu5, *]|apply bc<;>intro hc|(refine zA.mono (hm0 _) ?_;rintro r h ⟨hq,rfl⟩)|(refine zA.mono (hck _) ?_;rintro r h ⟨hq2,rfl⟩)|(refine zA.mono tcl ?_;rintro r h ⟨hq3,rfl⟩)|(refine zA.mono tdl ?_;rintro r h ⟨hq4,rfl⟩)|(refine zA.mono tm ?_;rintro r h ⟨hq5,rfl⟩)
  |true=>
   have h0:LS.length≠0:=by have:=of_decide_eq_true l0;omega
   have ts1:((TS.length:Int)==(LS.length:Int))=true:=by rw[hTL];simp
   have hne1:LS≠[]:=fun e=>by rw[e] at h0;exact h0 rfl
   have hne2:TS≠[]:=fun e=>by rw[e] at hTL;exact h0 hTL.symm
   obtain⟨i,hi⟩:∃i,kk%LS.length=i:=⟨_,rfl⟩;have hi1:i<LS.length:=by rw[←hi];exact Nat.mod_lt _ (by omega)
   have hi2:i<TS.length:=by omega
   have hrL:=zF6 (n:=kk) (m:=LS.length) h0;rw[hi] at hrL;have ewi:IntKind.i64.wrap ((i:Int)+1)=((i+1:Nat):Int):=ze (by unfold lim;omega);obtain⟨n1,hidn1⟩:∃n,G0.next=n:=⟨_,rfl⟩;obtain⟨G1,eG1,xG1,rG1_n1,kG1⟩:=yh G0 (.row ([a1,a2,a3,a4]));rw[hidn1] at eG1 xG1 rG1_n1;have rG1_n0:G1.at' n0=some (.row ([a1,a2,a3,a4])):=by rw[kG1.2 _ (by omega)];exact rG0_n0
   have lG1_n0:n0≠n1:=by omega
   have oG1_n0:n0<G1.next:=by omega
   have oG1_n1:n1<G1.next:=by omega
   have st1:zS Tryz.prog 36 (.ptr n1 0) (.agg [a1,a2,a3,a4]) (G0.new n1 (.row nl4))=some G1:=by rw[←eG1];exact zg zFG (by omega) rfl rfl (by show(a1.flat&&(a2.flat&&(a3.flat&&(a4.flat&&true))))=true;rw[F1,F2,F3,F4];rfl)
   obtain⟨n2,hidn2⟩:∃n,G1.next=n:=⟨_,rfl⟩;obtain⟨G2,eG2,xG2,rG2_n2,kG2⟩:=yh G1 (.row (LS.map sdd));rw[hidn2] at eG2 xG2 rG2_n2;have rG2_n0:G2.at' n0=some (.row ([a1,a2,a3,a4])):=by rw[kG2.2 _ (by omega)];exact rG1_n0
   have lG2_n0:n0≠n2:=by omega
   have rG2_n1:G2.at' n1=some (.row ([a1,a2,a3,a4])):=by rw[kG2.2 _ (by omega)];exact rG1_n1
   have lG2_n1:n1≠n2:=by omega
   have oG2_n0:n0<G2.next:=by omega
   have oG2_n1:n1<G2.next:=by omega
   have oG2_n2:n2<G2.next:=by omega
   have cl1:=zA8 ha1 hne1 (by omega) G1;rw[hidn2,eG2] at cl1;have dl1:=zET (l:=LS) (id:=n2) (i:=i) (h:=G2) hi1 (by omega) rG2_n2;obtain⟨G3,eG3⟩:∃H,G2.set n2 (.row ((LS.eraseIdx i).map sdd++ [sdd []]))=H:=⟨_,rfl⟩;have xG3:G3.next=G2.next:=by rw[←eG3,zY]
   have rG3_n0:G3.at' n0=some (.row ([a1,a2,a3,a4])):=by rw[←eG3,zC (by omega)];exact rG2_n0
   have rG3_n1:G3.at' n1=some (.row ([a1,a2,a3,a4])):=by rw[←eG3,zC (by omega)];exact rG2_n1
   have rG3_n2:G3.at' n2=some (.row ((LS.eraseIdx i).map sdd++ [sdd []])):=by rw[←eG3];exact zD _ _ _
   have oG3_n0:n0<G3.next:=by omega
   have oG3_n1:n1<G3.next:=by omega
   have oG3_n2:n2<G3.next:=by omega
   rw[eG3] at dl1;obtain⟨G4,eG4⟩:∃H,G3.set n1 (.row ([.rs n2 1 0 (LS.eraseIdx i).length,a2,a3,a4]))=H:=⟨_,rfl⟩;have xG4:G4.next=G3.next:=by rw[←eG4,zY]
   have rG4_n0:G4.at' n0=some (.row ([a1,a2,a3,a4])):=by rw[←eG4,zC (by omega)];exact rG3_n0
   have rG4_n1:G4.at' n1=some (.row ([.rs n2 1 0 (LS.eraseIdx i).length,a2,a3,a4])):=by rw[←eG4];exact zD _ _ _
   have rG4_n2:G4.at' n2=some (.row ((LS.eraseIdx i).map sdd++ [sdd []])):=by rw[←eG4,zC (by omega)];exact rG3_n2
   have oG4_n0:n0<G4.next:=by omega
   have oG4_n1:n1<G4.next:=by omega
   have oG4_n2:n2<G4.next:=by omega
   have st2:zS Tryz.prog 31 (.ptr n1 0) (.rs n2 1 0 (LS.eraseIdx i).length) G3=some G4:=by rw[zM rG3_n1 zAO (by simp) rfl rfl,←eG4];rfl
   obtain⟨n3,hidn3⟩:∃n,G4.next=n:=⟨_,rfl⟩;obtain⟨G5,eG5,xG5,rG5_n3,kG5⟩:=yh G4 (.row (TS.map sdd));rw[hidn3] at eG5 xG5 rG5_n3;have rG5_n0:G5.at' n0=some (.row ([a1,a2,a3,a4])):=by rw[kG5.2 _ (by omega)];exact rG4_n0
   have lG5_n0:n0≠n3:=by omega
   have rG5_n1:G5.at' n1=some (.row ([.rs n2 1 0 (LS.eraseIdx i).length,a2,a3,a4])):=by rw[kG5.2 _ (by omega)];exact rG4_n1
   have lG5_n1:n1≠n3:=by omega
   have rG5_n2:G5.at' n2=some (.row ((LS.eraseIdx i).map sdd++ [sdd []])):=by rw[kG5.2 _ (by omega)];exact rG4_n2
   have lG5_n2:n2≠n3:=by omega
   have oG5_n0:n0<G5.next:=by omega
   have oG5_n1:n1<G5.next:=by omega
   have oG5_n2:n2<G5.next:=by omega
   have oG5_n3:n3<G5.next:=by omega
   have cl2:=zA8 ha2 hne2 (by omega) G4;rw[hidn3,eG5] at cl2;have dl2:=zET (l:=TS) (id:=n3) (i:=i) (h:=G5) hi2 (by omega) rG5_n3;obtain⟨G6,eG6⟩:∃H,G5.set n3 (.row ((TS.eraseIdx i).map sdd++ [sdd []]))=H:=⟨_,rfl⟩;have xG6:G6.next=G5.next:=by rw[←eG6,zY]
   have rG6_n0:G6.at' n0=some (.row ([a1,a2,a3,a4])):=by rw[←eG6,zC (by omega)];exact rG5_n0
   have rG6_n1:G6.at' n1=some (.row ([.rs n2 1 0 (LS.eraseIdx i).length,a2,a3,a4])):=by rw[←eG6,zC (by omega)];exact rG5_n1
   have rG6_n2:G6.at' n2=some (.row ((LS.eraseIdx i).map sdd++ [sdd []])):=by rw[←eG6,zC (by omega)];exact rG5_n2
   have rG6_n3:G6.at' n3=some (.row ((TS.eraseIdx i).map sdd++ [sdd []])):=by rw[←eG6];exact zD _ _ _
   have oG6_n0:n0<G6.next:=by omega
   have oG6_n1:n1<G6.next:=by omega
   have oG6_n2:n2<G6.next:=by omega
   have oG6_n3:n3<G6.next:=by omega
   rw[eG6] at dl2;obtain⟨G7,eG7⟩:∃H,G6.set n1 (.row ([.rs n2 1 0 (LS.eraseIdx i).length, .rs n3 1 0 (TS.eraseIdx i).length,a3,a4]))=H:=⟨_,rfl⟩;have xG7:G7.next=G6.next:=by rw[←eG7,zY]
   have rG7_n0:G7.at' n0=some (.row ([a1,a2,a3,a4])):=by rw[←eG7,zC (by omega)];exact rG6_n0
   have rG7_n1:G7.at' n1=some (.row ([.rs n2 1 0 (LS.eraseIdx i).length, .rs n3 1 0 (TS.eraseIdx i).length,a3,a4])):=by rw[←eG7];exact zD _ _ _
   have rG7_n2:G7.at' n2=some (.row ((LS.eraseIdx i).map sdd++ [sdd []])):=by rw[←eG7,zC (by omega)];exact rG6_n2
   have rG7_n3:G7.at' n3=some (.row ((TS.eraseIdx i).map sdd++ [sdd []])):=by rw[←eG7,zC (by omega)];exact rG6_n3
   have oG7_n0:n0<G7.next:=by omega
   have oG7_n1:n1<G7.next:=by omega
   have oG7_n2:n2<G7.next:=by omega
   have oG7_n3:n3<G7.next:=by omega
   have st3:zS Tryz.prog 31 (.ptr n1 1) (.rs n3 1 0 (TS.eraseIdx i).length) G6=some G7:=by rw[zM rG6_n1 zAO (by simp) rfl rfl,←eG7];rfl
   obtain⟨n4,hidn4⟩:∃n,G7.next=n:=⟨_,rfl⟩;obtain⟨G8,eG8,xG8,rG8_n4,kG8⟩:=yh G7 (.row ([a1,a2,a3,a4]));rw[hidn4] at eG8 xG8 rG8_n4;have rG8_n0:G8.at' n0=some (.row ([a1,a2,a3,a4])):=by rw[kG8.2 _ (by omega)];exact rG7_n0
   have lG8_n0:n0≠n4:=by omega
   have rG8_n1:G8.at' n1=some (.row ([.rs n2 1 0 (LS.eraseIdx i).length, .rs n3 1 0 (TS.eraseIdx i).length,a3,a4])):=by rw[kG8.2 _ (by omega)];exact rG7_n1
   have lG8_n1:n1≠n4:=by omega
   have rG8_n2:G8.at' n2=some (.row ((LS.eraseIdx i).map sdd++ [sdd []])):=by rw[kG8.2 _ (by omega)];exact rG7_n2
   have lG8_n2:n2≠n4:=by omega
   have rG8_n3:G8.at' n3=some (.row ((TS.eraseIdx i).map sdd++ [sdd []])):=by rw[kG8.2 _ (by omega)];exact rG7_n3
   have lG8_n3:n3≠n4:=by omega
   have oG8_n0:n0<G8.next:=by omega
   have oG8_n1:n1<G8.next:=by omega
   have oG8_n2:n2<G8.next:=by omega
   have oG8_n3:n3<G8.next:=by omega
   have oG8_n4:n4<G8.next:=by omega
   have st4:zS Tryz.prog 36 (.ptr n4 0) (.agg [a1,a2,a3,a4]) (G7.new n4 (.row nl4))=some G8:=by rw[←eG8];exact zg zFG (by omega) rfl rfl (by show(a1.flat&&(a2.flat&&(a3.flat&&(a4.flat&&true))))=true;rw[F1,F2,F3,F4];rfl)
   obtain⟨n5,hidn5⟩:∃n,G8.next=n:=⟨_,rfl⟩;obtain⟨G9,eG9,xG9,rG9_n5,kG9⟩:=yh G8 (.row (TS.map sdd));rw[hidn5] at eG9 xG9 rG9_n5;have rG9_n0:G9.at' n0=some (.row ([a1,a2,a3,a4])):=by rw[kG9.2 _ (by omega)];exact rG8_n0
   have lG9_n0:n0≠n5:=by omega
   have rG9_n1:G9.at' n1=some (.row ([.rs n2 1 0 (LS.eraseIdx i).length, .rs n3 1 0 (TS.eraseIdx i).length,a3,a4])):=by rw[kG9.2 _ (by omega)];exact rG8_n1
   have lG9_n1:n1≠n5:=by omega
   have rG9_n2:G9.at' n2=some (.row ((LS.eraseIdx i).map sdd++ [sdd []])):=by rw[kG9.2 _ (by omega)];exact rG8_n2
   have lG9_n2:n2≠n5:=by omega
   have rG9_n3:G9.at' n3=some (.row ((TS.eraseIdx i).map sdd++ [sdd []])):=by rw[kG9.2 _ (by omega)];exact rG8_n3
   have lG9_n3:n3≠n5:=by omega
   have rG9_n4:G9.at' n4=some (.row ([a1,a2,a3,a4])):=by rw[kG9.2 _ (by omega)];exact rG8_n4
   have lG9_n4:n4≠n5:=by omega
   have oG9_n0:n0<G9.next:=by omega
   have oG9_n1:n1<G9.next:=by omega
   have oG9_n2:n2<G9.next:=by omega
   have oG9_n3:n3<G9.next:=by omega
   have oG9_n4:n4<G9.next:=by omega
   have oG9_n5:n5<G9.next:=by omega
   have cl3:=zA8 ha2 hne2 (by omega) G8;rw[hidn5,eG9] at cl3;obtain⟨G10,eG10⟩:∃H,G9.set n4 (.row ([a1, .rs n5 1 0 TS.length,a3,a4]))=H:=⟨_,rfl⟩;have xG10:G10.next=G9.next:=by rw[←eG10,zY]
   have rG10_n0:G10.at' n0=some (.row ([a1,a2,a3,a4])):=by rw[←eG10,zC (by omega)];exact rG9_n0
   have rG10_n1:G10.at' n1=some (.row ([.rs n2 1 0 (LS.eraseIdx i).length, .rs n3 1 0 (TS.eraseIdx i).length,a3,a4])):=by rw[←eG10,zC (by omega)];exact rG9_n1
   have rG10_n2:G10.at' n2=some (.row ((LS.eraseIdx i).map sdd++ [sdd []])):=by rw[←eG10,zC (by omega)];exact rG9_n2
   have rG10_n3:G10.at' n3=some (.row ((TS.eraseIdx i).map sdd++ [sdd []])):=by rw[←eG10,zC (by omega)];exact rG9_n3
   have rG10_n4:G10.at' n4=some (.row ([a1, .rs n5 1 0 TS.length,a3,a4])):=by rw[←eG10];exact zD _ _ _
   have rG10_n5:G10.at' n5=some (.row (TS.map sdd)):=by rw[←eG10,zC (by omega)];exact rG9_n5
   have oG10_n0:n0<G10.next:=by omega
   have oG10_n1:n1<G10.next:=by omega
   have oG10_n2:n2<G10.next:=by omega
   have oG10_n3:n3<G10.next:=by omega
   have oG10_n4:n4<G10.next:=by omega
   have oG10_n5:n5<G10.next:=by omega
   have st5:zS Tryz.prog 31 (.ptr n4 1) (.rs n5 1 0 TS.length) G9=some G10:=by rw[zM rG9_n4 zAO (by simp) rfl rfl,←eG10];rfl
   obtain⟨G11,eG11⟩:∃H,G10.set n5 (.row ((TS.set i (TS[i]++ [120])).map sdd))=H:=⟨_,rfl⟩;have xG11:G11.next=G10.next:=by rw[←eG11,zY]
   have rG11_n0:G11.at' n0=some (.row ([a1,a2,a3,a4])):=by rw[←eG11,zC (by omega)];exact rG10_n0
   have rG11_n1:G11.at' n1=some (.row ([.rs n2 1 0 (LS.eraseIdx i).length, .rs n3 1 0 (TS.eraseIdx i).length,a3,a4])):=by rw[←eG11,zC (by omega)];exact rG10_n1
   have rG11_n2:G11.at' n2=some (.row ((LS.eraseIdx i).map sdd++ [sdd []])):=by rw[←eG11,zC (by omega)];exact rG10_n2
   have rG11_n3:G11.at' n3=some (.row ((TS.eraseIdx i).map sdd++ [sdd []])):=by rw[←eG11,zC (by omega)];exact rG10_n3
   have rG11_n4:G11.at' n4=some (.row ([a1, .rs n5 1 0 TS.length,a3,a4])):=by rw[←eG11,zC (by omega)];exact rG10_n4
   have rG11_n5:G11.at' n5=some (.row ((TS.set i (TS[i]++ [120])).map sdd)):=by rw[←eG11];exact zD _ _ _
   have oG11_n0:n0<G11.next:=by omega
   have oG11_n1:n1<G11.next:=by omega
   have oG11_n2:n2<G11.next:=by omega
   have oG11_n3:n3<G11.next:=by omega
   have oG11_n4:n4<G11.next:=by omega
   have oG11_n5:n5<G11.next:=by omega
   have st6:zS Tryz.prog 9 (.ptr n5 i) (.str (TS[i]++ [120])) G10=some G11:=by rw[zM rG10_n5 qF (by rw[List.length_map];exact hi2) rfl rfl,←eG11,List.map_set];rfl
   have hle1:(LS.eraseIdx i).length≤LS.length:=List.length_eraseIdx_le ..;have hle2:(TS.eraseIdx i).length≤TS.length:=List.length_eraseIdx_le ..;have hle3:(TS.set i (TS[i]++ [120])).length=TS.length:=List.length_set ..;obtain⟨G12,eG12⟩:∃H,(G11.frz n2 ((LS.eraseIdx i).map sdd++ [sdd []])).frz n3 ((TS.eraseIdx i).map sdd++ [sdd []])=H:=⟨_,rfl⟩
   have hmA:=zA.noteAB (f:=25) hac (by omega) rG11_n2 rG11_n3 (zBz _ zIm) b3 b4 (hmis (n:=⟨LS.eraseIdx i,TS.eraseIdx i,HS,CS⟩) ⟨_,_,_,_,rfl,zX.mk _,zX.mk _,ha3,ha4⟩ (by show(LS.eraseIdx i).length≤1048576∧(TS.eraseIdx i).length≤1048576∧HS.length≤1048576∧CS.length≤1048576;omega) _);rw[eG12] at hmA;have dA:=hnoL hi1 (n:=⟨LS.eraseIdx i,TS.eraseIdx i,HS,CS⟩) rfl;obtain⟨XA,hXA⟩:∃X:Int,((zHq c l ⟨LS.eraseIdx i,TS.eraseIdx i,HS,CS⟩ F).length:Int)=X:=⟨_,rfl⟩;rw[hXA] at hmA dA;have dA:decide (XA≤0)=false:=decide_eq_false (by have:=of_decide_eq_true dA;omega)
   have r12_0:G12.at' n0=some (.row [a1,a2,a3,a4]):=by rw[←eG12];exact wN (by omega) (wN (by omega) rG11_n0 (zo _ _ _ ⟨b1,b2,b3,b4,trivial⟩)) (zo _ _ _ ⟨b1,b2,b3,b4,trivial⟩)
   have r12_5:G12.at' n5=some (.row ((TS.set i (TS[i]++ [120])).map sdd++ [])):=by rw[←eG12,List.append_nil];exact wN (by omega) (wN (by omega) rG11_n5 (zo _ _ _ (zBA _))) (zo _ _ _ (zBA _))
   have fr4:∀ {id:Nat} {cs:List D},n5≠id→zB5 id cs [a1, .rs n5 1 0 TS.length,a3,a4]= [a1, .rs n5 1 0 TS.length,a3,a4]:=fun {id cs} h=>by simp only[zB5];rw[zSj h,yF _ _ _ b1,yF _ _ _ b3,yF _ _ _ b4]
   have r12_4:G12.at' n4=some (.row [a1, .rs n5 1 0 TS.length,a3,a4]):=by rw[←eG12];exact wN (by omega) (wN (by omega) rG11_n4 (fr4 (by omega))) (fr4 (by omega))
   obtain⟨G13,eG13⟩:∃H,G12.frz n5 ((TS.set i (TS[i]++ [120])).map sdd++ [])=H:=⟨_,rfl⟩;have hmB:=zA.noteB (f:=25) (a1:=a1) hac r12_5 b1 b3 b4 (hmis (n:=⟨LS,TS.set i (TS[i]++ [120]),HS,CS⟩) ⟨_,_,_,_,rfl,ha1,zX.mk _,ha3,ha4⟩ (by show LS.length≤1048576∧(TS.set i (TS[i]++ [120])).length≤1048576∧HS.length≤1048576∧CS.length≤1048576;omega) _);rw[eG13,hle3] at hmB;have dB:=hnoT hi1 hi2 (n:=⟨LS,TS.set i (TS[i]++ [120]),HS,CS⟩) rfl rfl;obtain⟨XB,hXB⟩:∃X:Int,((zHq c l ⟨LS,TS.set i (TS[i]++ [120]),HS,CS⟩ F).length:Int)=X:=⟨_,rfl⟩;rw[hXB] at hmB dB
   have dB:decide (XB≤0)=false:=decide_eq_false (by have:=of_decide_eq_true dB;omega);have r13_0:G13.at' n0=some (.row [a1,a2,a3,a4]):=by rw[←eG13];exact wN (by omega) r12_0 (zo _ _ _ ⟨b1,b2,b3,b4,trivial⟩)
   have o13_0:n0<G13.next:=by rw[←eG13,←eG12];exact oG11_n0
   have ix18:zN Tryz.prog 31 (.rs n5 1 0 TS.length) (.int .i64 (i:Int))=some (.ptr n5 i):=by
    have:=yn (P:=Tryz.prog) (sz:=1) (id:=n5) zm qF (k:= .i64) hi2;rw[Nat.mul_one] at this;exact this
   have ad18:zKD .add TS[i] [120]=some (.str (TS[i]++ [120])):=by have:=hts _ (List.getElem_mem hi2);simp only[zKD];exact if_pos (by simp only[List.length_singleton];unfold lim;omega)
   have ld18:(TS.map sdd)[i]? =some (.str TS[i]):=by rw[List.getElem?_map,List.getElem?_eq_getElem hi2];rfl
   obtain⟨j,hj⟩:∃j,kk%CS.length=j:=⟨_,rfl⟩;have hj1:j<CS.length:=by rw[←hj];exact Nat.mod_lt _ (by omega)
   have hrC:=zF6 (n:=kk) (m:=CS.length) (by omega);rw[hj] at hrC;have ewj:IntKind.i64.wrap ((j:Int)+1)=((j+1:Nat):Int):=ze (by unfold lim;omega);obtain⟨n6,H1,H2,H3,H4,X,M,hn6,tcl,tdl,tst,tr3,tm,td⟩:=tail G13 r13_0 o13_0 hj1;clear tail hj hj1
   clear rG1_n1 lG1_n0 rG2_n2 rG2_n0 lG2_n0 rG2_n1 lG2_n1 rG3_n1 rG3_n2 rG4_n1 rG4_n2 rG5_n3 rG5_n0 lG5_n0 rG5_n1 lG5_n1 rG5_n2 lG5_n2 rG6_n1 rG6_n2 rG6_n3 rG7_n1 rG7_n2 rG7_n3 rG8_n4 lG8_n0 rG8_n1 lG8_n1 rG8_n2 lG8_n2 rG8_n3 lG8_n3 rG9_n5 lG9_n0 rG9_n1 lG9_n1 rG9_n2 lG9_n2 rG9_n3 lG9_n3 rG9_n4 lG9_n4 rG10_n0 rG10_n1 rG10_n2 rG10_n3 rG11_n0 rG11_n2 rG11_n3 rG11_n4 rG11_n5 r12_5 hle1 hle2 hle3 hXA hXB fr4 eG12 eG13 hne1 hne2 hi hi1 eG1 eG2 eG3 eG4 eG5 eG6 eG7 eG8 eG9 eG10 eG11 kG1 kG2 kG5 kG8 kG9 xG1 xG2 xG3 xG4 xG5 xG6 xG7 xG8 xG9 xG10 xG11 hG0n hTL;clear hmis hnoL hnoT hnoC hts
   repeat' first|simp only[go_sem,mu5, *]|apply bc<;>intro hc|(refine zA.mono (hm0 _) ?_;rintro r h ⟨hq,rfl⟩)|(refine zA.mono (hck _) ?_;rintro r h ⟨hq2,rfl⟩)|(refine zA.mono cl1 ?_;rintro r h ⟨rfl,hq3⟩)|(refine zA.mono dl1 ?_;rintro r h ⟨rfl,hq4⟩)|(refine zA.mono cl2 ?_;rintro r h ⟨rfl,hq5⟩)|(refine zA.mono dl2 ?_;rintro r h ⟨rfl,hq6⟩)|(refine zA.mono cl3 ?_;rintro r h ⟨rfl,hq7⟩)|(refine zA.mono hmA ?_;rintro r h ⟨hq8,rfl⟩)|(refine zA.mono hmB ?_;rintro r h ⟨hq9,rfl⟩)|(refine zA.mono tcl ?_;rintro r h ⟨hq10,rfl⟩)|(refine zA.mono tdl ?_;rintro r h ⟨hq11,rfl⟩)|(refine zA.mono tm ?_;rintro r h ⟨hq12,rfl⟩)
end Go.V
