/- Contracts of functions that the law reaches, part 4. No condition. -/
import Derived.Test.YtalepjdbhjinhaaGreatDoorW06
import Derived.Test.YtalepjdbhjinhaaGreatDoorW33
import Derived.Test.YtalepjdbhjinhaaGreatDoorW39
import Derived.Test.YtalepjdbhjinhaaGreatDoorW31
import Derived.Test.YtalepjdbhjinhaaGreatDoorW32
import Derived.Test.YtalepjdbhjinhaaGreatDoorW28
set_option linter.all false
namespace Go.V
open Go.Proofs
theorem wu {α:Type} {f:α→List D} {p:α→Prop} :∀ {ys:List (List D)},(∀y∈ys,∃s,y=f s∧p s)→∃l:List α,ys=l.map f∧∀s∈l,p s
 | [],_=>⟨[],rfl,fun n hn=>by cases hn⟩
 |y::ys,h=>by
  obtain⟨n,rfl,hn⟩:=h y (by simp);obtain⟨ks,rfl,hk⟩:=wu (ys:=ys) fun z hz=>h z (List.mem_cons_of_mem _ hz);exact⟨n::ks,rfl,fun m hm=>by
   rcases List.mem_cons.1 hm with rfl|hm
   ·exact hn
   ·exact hk m hm⟩
theorem zBs {k:Nat} {c:List D} (h:Shp Tryz.prog k 31 c):∃d l,c= [d]∧zV 1 (zy l) d∧l.length≤1048576:=by
 obtain⟨d,xs,j,e,hj,hs,_,hl,hx⟩:=zBL Tryz.underlying31 qH h;obtain⟨l,rfl,hk⟩:=wu (f:=fun s:List UInt8=>[D.str s]) fun y hy=>qO Tryz.underlying9 (hx y hy);rw[List.length_map] at hl;exact⟨d,l,e,hs,hl⟩
theorem zTy {k:Nat} {c:List D} (h:Shp Tryz.prog k 137 c):∃d l,c= [d]∧zV 1 (zI9 l) d∧l.length≤1048576:=by
 obtain⟨d,xs,j,e,hj,hs,_,hl,hx⟩:=zBL Tryz.underlying137 zLl h;obtain⟨l,rfl,hk⟩:=wu (f:=fun s:Int=>[D.int .i64 s]) fun y hy=>zA2 Tryz.underlying3 (hx y hy);rw[List.length_map] at hl;exact⟨d,l,e,hs,hl⟩
theorem zX8 {k:Nat} {c:List D} (h:Shp Tryz.prog k 56 c):∃n:Lic,c=n.cells∧n.Sm:=by
 obtain⟨j,_,hf⟩:=yt Tryz.underlying56 h;obtain⟨c1,r1,rfl,h1,hf⟩:=zI hf;obtain⟨c2,r2,rfl,h2,hf⟩:=zI hf;obtain⟨c3,r3,rfl,h3,hf⟩:=zI hf;obtain⟨c4,r4,rfl,h4,hf⟩:=zI hf;obtain rfl:=wB hf;obtain⟨s1,rfl,b1⟩:=qO Tryz.underlying9 h1;obtain⟨s2,rfl,b2⟩:=qO Tryz.underlying9 h2;obtain⟨s3,rfl,b3⟩:=zA2 Tryz.underlying3 h3;obtain⟨s4,rfl,b4⟩:=qO Tryz.underlying9 h4;exact⟨⟨s1,s2,s3,s4⟩,rfl,b1,b2,b4⟩
theorem zX9 {k:Nat} {c:List D} (h:Shp Tryz.prog k 139 c):∃n:Exc,c=n.cells∧n.Ok:=by
 obtain⟨j,_,hf⟩:=yt Tryz.underlying139 h;obtain⟨c1,r1,rfl,h1,hf⟩:=zI hf;obtain⟨c2,r2,rfl,h2,hf⟩:=zI hf;obtain⟨c3,r3,rfl,h3,hf⟩:=zI hf;obtain rfl:=wB hf;obtain⟨s1,rfl,b1⟩:=qO Tryz.underlying9 h1;obtain⟨s2,rfl,b2⟩:=qO Tryz.underlying9 h2;obtain⟨d,l,rfl,i3,b3⟩:=zTy h3;exact⟨⟨s1,s2,l,d⟩,rfl,i3,b3,b1⟩
theorem zYA {k:Nat} {c:List D} (h:Shp Tryz.prog k 143 c):∃n:Cla,c=n.cells∧n.Ok:=by
 obtain⟨j,_,hf⟩:=yt Tryz.underlying143 h;obtain⟨c1,r1,rfl,h1,hf⟩:=zI hf;obtain⟨c2,r2,rfl,h2,hf⟩:=zI hf;obtain⟨c3,r3,rfl,h3,hf⟩:=zI hf;obtain⟨c4,r4,rfl,h4,hf⟩:=zI hf;obtain⟨c5,r5,rfl,h5,hf⟩:=zI hf;obtain rfl:=wB hf;obtain⟨s1,rfl,b1⟩:=qO Tryz.underlying9 h1;obtain⟨s2,rfl,b2⟩:=zA2 Tryz.underlying3 h2;obtain⟨s3,rfl,b3⟩:=zA2 Tryz.underlying3 h3;obtain⟨s4,rfl,b4⟩:=zA2 Tryz.underlying3 h4;obtain⟨d,l,rfl,i5,b5⟩:=zBs h5;exact⟨⟨s1,s2,s3,s4,l,d⟩,rfl,i5,b5⟩
theorem zYB {k:Nat} {c:List D} (h:Shp Tryz.prog k 147 c):∃n:Apt,c=n.cells∧True:=by
 obtain⟨j,_,hf⟩:=yt Tryz.underlying147 h;obtain⟨c1,r1,rfl,h1,hf⟩:=zI hf;obtain⟨c2,r2,rfl,h2,hf⟩:=zI hf;obtain rfl:=wB hf;obtain⟨s1,rfl,b1⟩:=qO Tryz.underlying9 h1;obtain⟨s2,rfl,b2⟩:=qO Tryz.underlying9 h2;exact⟨⟨s1,s2⟩,rfl,trivial⟩
theorem zYC {k:Nat} {c:List D} (h:Shp Tryz.prog k 27 c):∃n:Cat,qt n (.agg c)∧n.Sm:=by
 obtain⟨j,_,hf⟩:=yt Tryz.underlying27 h;obtain⟨c1,r1,rfl,h1,hf⟩:=zI hf;obtain⟨c2,r2,rfl,h2,hf⟩:=zI hf;obtain⟨c3,r3,rfl,h3,hf⟩:=zI hf;obtain⟨c4,r4,rfl,h4,hf⟩:=zI hf;obtain rfl:=wB hf;obtain⟨d1,x1,j1,rfl,_,i1,_,b1,h1⟩:=zBL Tryz.underlying22 zCq h1;obtain⟨d2,x2,j2,rfl,_,i2,_,b2,h2⟩:=zBL Tryz.underlying23 zGI h2;obtain⟨d3,x3,j3,rfl,_,i3,_,b3,h3⟩:=zBL Tryz.underlying24 zCC h3;obtain⟨d4,x4,j4,rfl,_,i4,_,b4,h4⟩:=zBL Tryz.underlying25 zI0 h4;obtain⟨l1,rfl,k1⟩:=wu fun y hy=>zX8 (h1 y hy);obtain⟨l2,rfl,k2⟩:=wu fun y hy=>zX9 (h2 y hy);obtain⟨l3,rfl,k3⟩:=wu fun y hy=>zYA (h3 y hy)
 obtain⟨l4,rfl,k4⟩:=wu fun y hy=>zYB (h4 y hy);rw[List.length_map] at b1 b2 b3 b4;exact⟨⟨l1,l2,l3,l4⟩,⟨d1,d2,d3,d4,rfl,i1,i2,i3,i4⟩,⟨b1,k1⟩,⟨b2,k2⟩,⟨b3,k3⟩,b4⟩
theorem zVU:∀ {l:List Ex},(∀e∈l,e.Ok)→okL l
 | [],_=>by simp only[okL]
 |e::l,h=>by simp only[okL];exact⟨h e (by simp),zVU fun x hx=>h x (List.mem_cons_of_mem _ hx)⟩
theorem zVV (k:Nat):∀ {c:List D},Shp Tryz.prog k 62 c→∃e:Ex,c=e.cells∧e.Ok:=by
 induction k using Nat.strongRecOn with
 |_ k ih=>
 intro c h;obtain⟨j,hj,hf⟩:=yt Tryz.underlying62 h;obtain⟨c1,r1,rfl,h1,hf⟩:=zI hf;obtain⟨c2,r2,rfl,h2,hf⟩:=zI hf;obtain⟨c3,r3,rfl,h3,hf⟩:=zI hf;obtain⟨c4,r4,rfl,h4,hf⟩:=zI hf;obtain rfl:=wB hf;obtain⟨s1,rfl,b1⟩:=zA2 Tryz.underlying3 h1;obtain⟨s2,rfl,b2⟩:=qO Tryz.underlying9 h2;obtain⟨s3,rfl,b3⟩:=qO Tryz.underlying9 h3;obtain⟨d4,x4,m,rfl,hm,i4,_,b4,h4⟩:=zBL Tryz.underlying60 zPv h4;obtain⟨l,rfl,kl⟩:=wu fun y hy=>ih m (by omega) (h4 y hy);rw[List.length_map] at b4;exact⟨.mk s1 s2 s3 l d4,rfl,by simp only[Ex.Ok];exact⟨i4,b4,b2,b3,zVU kl⟩⟩
theorem zYD {k:Nat} {c:List D} (h:Shp Tryz.prog k 83 c):∃f:Fac,c=f.cells∧f.Ok0:=by
 obtain⟨j,_,hf⟩:=yt Tryz.underlying83 h;obtain⟨c1,r1,rfl,h1,hf⟩:=zI hf;obtain⟨c2,r2,rfl,h2,hf⟩:=zI hf;obtain⟨c3,r3,rfl,h3,hf⟩:=zI hf;obtain⟨c4,r4,rfl,h4,hf⟩:=zI hf;obtain⟨c5,r5,rfl,h5,hf⟩:=zI hf;obtain⟨c6,r6,rfl,h6,hf⟩:=zI hf;obtain⟨c7,r7,rfl,h7,hf⟩:=zI hf;obtain⟨c8,r8,rfl,h8,hf⟩:=zI hf;obtain⟨c9,r9,rfl,h9,hf⟩:=zI hf;obtain rfl:=wB hf;obtain⟨s1,rfl,b1⟩:=zA2 Tryz.underlying3 h1;obtain⟨s2,rfl,b2⟩:=qO Tryz.underlying9 h2;obtain⟨s3,rfl,b3⟩:=qO Tryz.underlying9 h3;obtain⟨s4,rfl,b4⟩:=zA2 Tryz.underlying3 h4;obtain⟨s5,rfl,b5⟩:=zA2 Tryz.underlying3 h5;obtain⟨s6,rfl,b6⟩:=zA2 Tryz.underlying3 h6
 obtain⟨s7,rfl⟩:=zTE Tryz.underlying4 h7;obtain⟨e,rfl,b8⟩:=zVV _ h8;obtain⟨d,l,rfl,i9,b9⟩:=zBs h9;exact⟨⟨s1,s2,s3,s4,s5,s6,s7,e,l,d⟩,rfl,b8,i9,b9,b2,b3⟩
theorem zTz {k:Nat} {c:List D} (h:Shp Tryz.prog k 29 c):∃d fs,c= [d]∧zV 12 (zJj fs) d∧fs.length≤1048576∧∀f∈fs,f.Ok0:=by
 obtain⟨d,xs,j,e,hj,hs,_,hl,hx⟩:=zBL Tryz.underlying29 zPw h;obtain⟨l,rfl,hk⟩:=wu fun y hy=>zYD (hx y hy);rw[List.length_map] at hl;exact⟨d,l,e,hs,hl,hk⟩
theorem zSD {k:Nat} {c:List D} (h:Shp Tryz.prog k 31 c):∃d l,c= [d]∧zV 1 (zy l) d∧l.length≤1048576∧∀s∈l,s.length≤1048576:=by
 obtain⟨d,xs,j,e,hj,hs,_,hl,hx⟩:=zBL Tryz.underlying31 qH h;obtain⟨l,rfl,hk⟩:=wu (f:=fun s:List UInt8=>[D.str s]) fun y hy=>qO Tryz.underlying9 (hx y hy);rw[List.length_map] at hl;exact⟨d,l,e,hs,hl,hk⟩
theorem zYE {k:Nat} {c:List D} (h:Shp Tryz.prog k 51 c):∃n:Trm,c=n.cells∧True:=by
 obtain⟨j,_,hf⟩:=yt Tryz.underlying51 h;obtain⟨c1,r1,rfl,h1,hf⟩:=zI hf;obtain⟨c2,r2,rfl,h2,hf⟩:=zI hf;obtain rfl:=wB hf;obtain⟨s1,rfl,b1⟩:=qO Tryz.underlying9 h1;obtain⟨s2,rfl,b2⟩:=qO Tryz.underlying9 h2;exact⟨⟨s1,s2⟩,rfl,trivial⟩
theorem zYF {k:Nat} {c:List D} (h:Shp Tryz.prog k 168 c):∃a:Alt,c= [a.d]∧a.Sm:=by
 obtain⟨d,xs,j,e,hj,hs,_,hl,hx⟩:=zBL Tryz.underlying168 wL h;obtain⟨l,rfl,_⟩:=wu fun y hy=>zYE (hx y hy);rw[List.length_map] at hl;exact⟨⟨l,d⟩,e,hs,hl⟩
theorem zYG {k:Nat} {c:List D} (h:Shp Tryz.prog k 33 c):∃ (y:Cho) (a b:D),c= [a,b]∧zMP y (.agg [a,b])∧y.Sm:=by
 obtain⟨j,_,hf⟩:=yt Tryz.underlying33 h;obtain⟨c1,r1,rfl,h1,hf⟩:=zI hf;obtain⟨c2,r2,rfl,h2,hf⟩:=zI hf;obtain rfl:=wB hf;obtain⟨d1,x1,j1,rfl,_,i1,_,b1,h1⟩:=zBL Tryz.underlying30 wG h1;obtain⟨l1,rfl,k1⟩:=wu fun y hy=>zYF (h1 y hy);obtain⟨d2,l2,rfl,i2,b2⟩:=zBs h2;rw[List.length_map] at b1;exact⟨⟨l1,l2⟩,d1,d2,rfl,⟨d1,d2,rfl,i1,i2⟩,b1,b2,k1⟩
theorem zYH {k:Nat} {c:List D} (h:Shp Tryz.prog k 65 c):∃x:Con,c=x.cells∧x.Ok:=by
 obtain⟨j,_,hf⟩:=yt Tryz.underlying65 h;obtain⟨c1,r1,rfl,h1,hf⟩:=zI hf;obtain⟨c2,r2,rfl,h2,hf⟩:=zI hf;obtain⟨c3,r3,rfl,h3,hf⟩:=zI hf;obtain⟨c4,r4,rfl,h4,hf⟩:=zI hf;obtain⟨c5,r5,rfl,h5,hf⟩:=zI hf;obtain rfl:=wB hf;obtain⟨s1,rfl,b1⟩:=qO Tryz.underlying9 h1;obtain⟨⟨s,t1,t2,t3,t4⟩,rfl,_⟩:=zVV _ h2;obtain⟨d3,l3,rfl,i3,b3,k3⟩:=zSD h3;obtain⟨d4,x4,j4,rfl,_,i4,_,b4,_⟩:=zBL Tryz.underlying63 zWe h4;obtain⟨s5,rfl,b5⟩:=qO Tryz.underlying9 h5;exact⟨⟨s1,l3,_,_,_,_,d3,d4, .str s5⟩,rfl,i3,k3,b3⟩
theorem zSE {k:Nat} {c:List D} (h:Shp Tryz.prog k 38 c):∃ (n:Cat) (fs:List Fac) (y:Cho) (l:List Con) (out:List UInt8) (ca cb ce cp x ta oa ld m1 m2 m3 m4:D),c= [ca,cb,ce,cp,x,ta,oa,ld, .str out,m1,m2,m3,m4]∧qt n (.agg [ca,cb,ce,cp])∧n.Sm∧zV 12 (zJj fs) x∧fs.length≤1048576∧(∀f∈fs,f.Ok0)∧zMP y (.agg [ta,oa])∧y.Sm∧zV 8 (cons l) ld∧l.length≤1048576∧∀x∈l,x.Ok:=by
 obtain⟨j,_,hf⟩:=yt Tryz.underlying38 h;obtain⟨c1,r1,rfl,h1,hf⟩:=zI hf;obtain⟨c2,r2,rfl,h2,hf⟩:=zI hf;obtain⟨c3,r3,rfl,h3,hf⟩:=zI hf;obtain⟨c4,r4,rfl,h4,hf⟩:=zI hf;obtain⟨c5,r5,rfl,h5,hf⟩:=zI hf;obtain⟨c6,r6,rfl,h6,hf⟩:=zI hf;obtain rfl:=wB hf;obtain⟨n,⟨ca,cb,ce,cp,e1,q1,q2,q3,q4⟩,hs⟩:=zYC h1;cases e1;obtain⟨x,fs,rfl,hx,hl,hok⟩:=zTz h2;obtain⟨y,ta,oa,rfl,hy,hys⟩:=zYG h3;obtain⟨ld,xs,j4,rfl,_,i4,_,b4,h4⟩:=zBL Tryz.underlying34 zUJ h4;obtain⟨l,rfl,kl⟩:=wu fun y hy=>zYH (h4 y hy);rw[List.length_map] at b4;obtain⟨out,rfl,b5⟩:=qO Tryz.underlying9 h5;obtain⟨j6,_,hf⟩:=yt Tryz.underlying36 h6
 obtain⟨g1,r1,rfl,h1,hf⟩:=zI hf;obtain⟨g2,r2,rfl,h2,hf⟩:=zI hf;obtain⟨g3,r3,rfl,h3,hf⟩:=zI hf;obtain⟨g4,r4,rfl,h4,hf⟩:=zI hf;obtain rfl:=wB hf;obtain⟨m1,_,rfl,_⟩:=zBs h1;obtain⟨m2,_,rfl,_⟩:=zBs h2;obtain⟨m3,_,rfl,_⟩:=zBs h3;obtain⟨m4,_,rfl,_⟩:=zBs h4;exact⟨n,fs,y,l,out,ca,cb,ce,cp,x,ta,oa,ld,m1,m2,m3,m4,rfl,⟨ca,cb,ce,cp,rfl,q1,q2,q3,q4⟩,hs,hx,hl,hok,hy,hys,i4,b4,kl⟩
set_option maxRecDepth 100000
theorem zYI {L:List Due} {d:D} (hd:zV 7 (L.map qB) d) {i:Nat} (hi:i<L.length):zQ Tryz.prog 45 d (.int .i64 (i:Int))=some (.iptr (qB L[i]) 0):=zF hd zBe zCB (by simp[hi])
theorem zT0 {L:List Due} {d:D} (hd:zV 7 (L.map qB) d) (h:Heap):zBU Tryz.prog 45 d h=some (.int .i64 (L.length:Int)):=by rw[zP hd Tryz.underlying45,List.length_map]
theorem zJd {l:List Due} {d:D} (hd:zV 7 (l.map qB) d) (hl:l.length≤33554432) {f:FuncId} {cap:List D} {p:Due→Bool} {g:Heap} (hp:∀s∈l,zA Tryz.prog f ([]++ [.agg (qB s)]++cap) g fun r h'=>h'=g∧r= .bool (p s)):
  zA Tryz.prog 41 [d, .fn (.func f) [] cap] g fun r h'=>h'=g∧r= .int .i64 (zHA p l):=by
 have hlen:=zT0 hd;refine zA.of_fn (g:=zWt) mix Tryz.func41 zhR rfl rfl ?_;simp only[Tryz.f41,gJ]
 repeat' first|simp only[go_sem,zaN, *]|apply bc<;>intro hc
 refine zC (fun i fr h=>fr 1= .fn (.func f) [] cap∧fr 0=d∧fr 6=d∧fr 7= .int .i64 (l.length:Int)∧fr 8= .int .i64 (i:Int)∧h=g∧∀j (hj:j<l.length),j<i→p l[j]=false) l.length (by omega) ?_ ?_ ?_
 ·simp only[go_sem,zaN,true_and,and_true,Int.ofNat_zero];exact fun j hj h0=>by omega
 ·rintro i fr h hlt e1 ew ⟨f1,f0,f6,f7,f8,rfl,hj⟩;have a1:=zYI hd hlt;have hq:=hp _ (List.getElem_mem hlt);simp only[List.nil_append,List.cons_append] at hq;have hv8:zW true 7 (qB l[i]) 0=some (.agg (qB l[i])):=zB rfl (by omega);cases hb:p l[i] with
  |true=>
   have hx:=zBm hlt hj hb;rw[hb] at hq;clear hj hp hd
   repeat' first|simp only[go_sem,zaN, *]|apply bc<;>intro hc|(refine zA.mono hq ?_;rintro r h ⟨rfl,rfl⟩)
  |false=>
   have hn:=qF (p:=p) hlt hj hb;rw[hb] at hq;clear hj hp hd
   repeat' first|simp only[go_sem,zaN, *]|apply bc<;>intro hc|(refine zA.mono hq ?_;rintro r h ⟨rfl,rfl⟩)
   exact hn
 ·rintro fr h e1 ⟨f1,f0,f6,f7,f8,rfl,hj⟩;have hx:=zBn (p:=p) fun j hj'=>hj j hj' hj';clear hj hp hd
  repeat' first|simp only[go_sem,zaN, *]|apply bc<;>intro hc
theorem zFM {l:List Due} {d:D} (hd:zV 7 (l.map qB) d) (hl:l.length≤33554432) {f:FuncId} {cap:List D} {p:Due→Bool} {g:Heap} (hp:∀s∈l,zA Tryz.prog f ([]++ [.agg (qB s)]++cap) g fun r h'=>h'=g∧r= .bool (p s)):
  zA Tryz.prog 12 [d, .fn (.func f) [] cap] g fun r h'=>h'=g∧r= .bool (l.any p):=by
 have hix:=zJd hd hl hp;have hge:=zCH (l:=l) (p:=p);refine zA.of_fn (g:=zWy) mix Tryz.func12 zhZ rfl rfl ?_;simp only[Tryz.f12,gJ]
 repeat' first|simp only[go_sem,zhY, *]|apply bc<;>intro hc|(refine zA.mono hix ?_;rintro r h ⟨rfl,rfl⟩)
theorem zFN {l:List Con} {d:D} (hd:zV 8 (cons l) d) (hl:l.length≤1048576) {f:FuncId} {cap:List D} {p:Con→Bool} {g:Heap} (hp:∀s∈l,zA Tryz.prog f ([]++ [.agg s.cells]++cap) g fun r h'=>h'=g∧r= .bool (p s)):
  zA Tryz.prog 17 [d, .fn (.func f) [] cap] g fun r h'=>h'=g∧r= .bool (l.any p):=by
 have hix:=zD9 hd hl hp;have hge:=zCH (l:=l) (p:=p);refine zA.of_fn (g:=zWs) mix Tryz.func17 zhO rfl rfl ?_;simp only[Tryz.f17,gJ]
 repeat' first|simp only[go_sem,zhN, *]|apply bc<;>intro hc|(refine zA.mono hix ?_;rintro r h ⟨rfl,rfl⟩)
theorem zfH {v:Due} {s:List UInt8} {id:Nat} {h:Heap} (hr:h.at' id=some (.row [.str s])):zA Tryz.prog 15 ([]++ [.agg (qB v)]++ [.ptr id 0]) h fun r h'=>h'=h∧r= .bool (v.2.2.1==s):=by
 have k0:(qB v)[2]? =some (.str v.2.2.1):=rfl;show zA _ _ [.agg (qB v), .ptr id 0] _ _;generalize qB v=vc at *
 refine zA.of_fn (g:=zWf) mix Tryz.func15 zg1 rfl rfl ?_;simp only[Tryz.f15,gJ]
 repeat' first|simp only[go_sem,zg0, *]|apply bc<;>intro hc
theorem zfI {v:Due} {s:List UInt8} {id:Nat} {h:Heap} (hr:h.at' id=some (.row [.str s])):zA Tryz.prog 20 ([]++ [.agg (qB v)]++ [.ptr id 0]) h fun r h'=>h'=h∧r= .bool (v.2.1==s):=by
 have k0:(qB v)[1]? =some (.str v.2.1):=rfl;show zA _ _ [.agg (qB v), .ptr id 0] _ _;generalize qB v=vc at *
 refine zA.of_fn (g:=zW6) mix Tryz.func20 zhp rfl rfl ?_;simp only[Tryz.f20,gJ]
 repeat' first|simp only[go_sem,zho, *]|apply bc<;>intro hc
theorem zby {k:Con} (hk:k.Ok) {v:Due} {s:List UInt8} {id:Nat} {h:Heap} (hr:h.at' id=some (.row [.str s])):zA Tryz.prog 18 ([]++ [.agg k.cells]++ [.iptr (qB v) 0, .ptr id 0]) h fun r h'=>h'=h∧r= .bool (k.path==v.2.1&&k.hs.any (· ==s)):=by
 have k0:k.cells[0]? =some (.str k.path):=rfl;have k5:k.cells[5]? =some k.hd:=rfl;have v1:(qB v)[1]? =some (.str v.2.1):=rfl;have hcs:=fun h=>zGV hk.sl hk.len s h;obtain⟨q1,q2,_⟩:=zp hk.sl;show zA _ _ [.agg k.cells, .iptr (qB v) 0, .ptr id 0] _ _;generalize k.cells=kc at *
 generalize qB v=vc at *
 cases e:k.path==v.2.1 with
 |false=>
  refine zA.of_fn (g:=zSv) mix Tryz.func18 zgK rfl rfl ?_;simp only[Tryz.f18,gJ]
  repeat' first|simp only[go_sem,zgJ, *]|apply bc<;>intro hc
 |true=>
  refine zA.of_fn (g:=zSv) mix Tryz.func18 zgK rfl rfl ?_;simp only[Tryz.f18,gJ]
  repeat' first|simp only[go_sem,zgJ, *]|apply bc<;>intro hc|(refine zA.mono (hcs _) ?_;rintro r h ⟨hq,rfl⟩)
def zbz (l:List Con) (s:List UInt8) (v:Due):Bool:=l.any fun k=>k.path==v.2.1&&k.hs.any (· ==s)
section
variable {ca cb ce cp x ta oa ld n1 n2 n3 n4:D} {out:List UInt8}
theorem zfJ {l:List Con} (hl:zV 8 (cons l) ld) (hn:l.length≤1048576) (hok:∀x∈l,x.Ok) {v:Due} {s:List UInt8} {id:Nat} {h:Heap} (hr:h.at' id=some (.row [.str s])):zA Tryz.prog 16 ([]++ [.agg (qB v)]++ [.iptr [ca,cb,ce,cp,x,ta,oa,ld, .str out,n1,n2,n3,n4] 0, .ptr id 0]) h fun r h'=>h'=h∧r= .bool (zbz l s v):=by
 have hcf:=zFN hl hn (f:=18) (cap:=[.iptr (qB v) 0, .ptr id 0]) (p:=fun k=>k.path==v.2.1&&k.hs.any (· ==s)) (g:=h) fun k hk=>zby (hok k hk) hr;obtain⟨q1,q2,_⟩:=zp hl;unfold zbz;show zA _ _ [.agg (qB v), .iptr [ca,cb,ce,cp,x,ta,oa,ld, .str out,n1,n2,n3,n4] 0, .ptr id 0] _ _;generalize qB v=vc at *
 refine zA.of_fn (g:=zWl) mix Tryz.func16 zhB rfl rfl ?_;simp only[Tryz.f16,gJ]
 repeat' first|simp only[go_sem,zhA, *]|apply bc<;>intro hc|(refine zA.mono hcf ?_;rintro r h ⟨hq,rfl⟩)
theorem zb0 {f:FuncId} {cap:List D} {kd:Int} {v:Due} {p:Due→Bool} {h:Heap} (hp:zA Tryz.prog f ([]++ [.agg (qB v)]++cap) h fun r h'=>h'=h∧r= .bool (p v)):zA Tryz.prog 13 ([]++ [.agg (qB v)]++ [.iptr [ca,cb,ce,cp,x,ta,oa,ld, .str out,n1,n2,n3,n4] 0, .iptr [.int .i64 kd] 0, .iptr [.fn (.func f) [] cap] 0]) h fun r h'=>h'=h∧r= .bool (v.1==out&&v.2.2.2.2.2.2==kd&&p v):=by
 have v0:(qB v)[0]? =some (.str v.1):=rfl;have v6:(qB v)[6]? =some (.int .i64 v.2.2.2.2.2.2):=rfl;have hv7:zW true 7 (qB v) 0=some (.agg (qB v)):=zB rfl (by omega);simp only[List.nil_append,List.cons_append] at hp;show zA _ _ [.agg (qB v), .iptr [ca,cb,ce,cp,x,ta,oa,ld, .str out,n1,n2,n3,n4] 0, .iptr [.int .i64 kd] 0, .iptr [.fn (.func f) [] cap] 0] _ _;generalize qB v=vc at *
 cases e1:v.1==out with
 |false=>
  refine zA.of_fn (g:=zQn) mix Tryz.func13 zeR rfl rfl ?_;simp only[Tryz.f13,gJ]
  repeat' first|simp only[go_sem,zeQ, *]|apply bc<;>intro hc
 |true=>
  cases e2:v.2.2.2.2.2.2==kd with
  |false=>
   refine zA.of_fn (g:=zQn) mix Tryz.func13 zeR rfl rfl ?_;simp only[Tryz.f13,gJ]
   repeat' first|simp only[go_sem,zeQ, *]|apply bc<;>intro hc
  |true=>
   refine zA.of_fn (g:=zQn) mix Tryz.func13 zeR rfl rfl ?_;simp only[Tryz.f13,gJ]
   repeat' first|simp only[go_sem,zeQ, *]|apply bc<;>intro hc|(refine zA.mono hp ?_;rintro r h ⟨hq,rfl⟩)
def zLI (L:List Due) (out:List UInt8) (kd:Int) (p:Due→Bool):Bool:=L.any fun v=>v.1==out&&v.2.2.2.2.2.2==kd&&p v
theorem zYJ {L:List Due} {dl:D} (hd:zV 7 (L.map qB) dl) (hL:L.length≤33554432) {f:FuncId} {cap:List D} {kd:Int} {p:Due→Bool} {id:Nat} {h:Heap} (hr:h.at' id=some (.row [dl])) (hp:∀v∈L,zA Tryz.prog f ([]++ [.agg (qB v)]++cap) h fun r h'=>h'=h∧r= .bool (p v)):
  zA Tryz.prog 11 [.int .i64 kd, .fn (.func f) [] cap, .ptr id 0, .iptr [ca,cb,ce,cp,x,ta,oa,ld, .str out,n1,n2,n3,n4] 0] h fun r h'=>h'=h∧r= .bool (zLI L out kd p):=by
 have hcf:=zFM hd hL (f:=13) (cap:=[.iptr [ca,cb,ce,cp,x,ta,oa,ld, .str out,n1,n2,n3,n4] 0, .iptr [.int .i64 kd] 0, .iptr [.fn (.func f) [] cap] 0]) (p:=fun v=>v.1==out&&v.2.2.2.2.2.2==kd&&p v) (g:=h) fun v hv=>zb0 (hp v hv);obtain⟨q1,q2,_⟩:=zp hd;unfold zLI;refine zA.of_fn (g:=zWr) mix Tryz.func11 zhM rfl rfl ?_;simp only[Tryz.f11,gJ]
 repeat' first|simp only[go_sem,zhL, *]|apply bc<;>intro hc|(refine zA.mono hcf ?_;rintro r h ⟨hq,rfl⟩)
end
structure NxP (c:Cat) (L:List Due) (l:List Con) (out:List UInt8) (n:Note):Prop where
 tl:n.ts.length=n.ls.length
 l1:n.ls.length≤1024
 l3:n.hs.length≤1024
 l4:n.cs.length≤1024
 lic:∀i (hi:i<n.ls.length),∃x,wp c n.ls[i]=some x∧n.ts[i]? =some x.text∧zLI L out 0 (fun v=>v.2.2.1==n.ls[i])=true
 hld:∀s∈n.hs,zLI L out 1 (zbz l s)=true
 chg:∀s∈n.cs,zLI L out 2 (fun v=>v.2.1==s)=true
theorem zOy {n:Note} (h:zAH n=0):max (max (max n.ls.length n.ts.length) n.hs.length) n.cs.length≤1024:=by
 unfold zAH at h;split at h
 ·exact absurd h (by decide)
 ·omega
theorem zE5 {c:Cat} {fs:List Fac} {y:Cho} {l:List Con} {out:List UInt8} (h:zEB c fs y l out=0):yC c fs y true=0∧zAH (mkN c l (zG6 (zG7 c fs y) out))=0:=by
 have h0:zHT c fs y l out=0:=by
  cases q:(zHT c fs y l out==0) with
  |true=>simpa using q
  |false=>
   unfold zEB at h;rw[q] at h
   have:zHT c fs y l out=0:=h;exact this
 refine⟨?_,?_⟩
 ·unfold zHT at h0;split at h0
  ·rename_i q;rw[h0] at q;exact absurd q (by decide)
  ·rename_i q;simpa using q
 ·unfold zEB at h;rw[h0] at h;exact h
theorem zYK {c:Cat} {fs:List Fac} {y:Cho} {d x yd:D} (I:CIn c fs y d x yd) {l:List Con} (hlo:∀x∈l,x.Ok) {out:List UInt8} (h:zEB c fs y l out=0):NxP c (zG7 c fs y) l out (zG8 c fs y l out):=by
 obtain⟨h1,h2⟩:=zE5 h;have hcat:=zBr (zCT h1 I.ysm).case;have hsm:=zSB (y:=y) (out:=out) hcat I.sm I.ok hlo;have hN:zG8 c fs y l out=mkN c l (zG6 (zG7 c fs y) out):=by unfold zG8;rw[h];rfl
 rw[hN];have hk:=zOy h2;generalize hF:zG6 (zG7 c fs y) out=F at *
 have hm:∀v∈F,v∈zG7 c fs y∧v.1=out:=fun v hv=>by
  rw[←hF] at hv;obtain⟨q1,q2⟩:=List.mem_filter.1 hv;unfold okN at q2;simp only[Bool.and_eq_true,beq_iff_eq] at q2;exact⟨q1,q2.1⟩
 unfold mkN at hk⊢;refine⟨List.length_map ..,by omega,by omega,by omega,fun i hi=> ?_,fun s hs=> ?_,fun s hs=> ?_⟩
 ·have hs:=wI.1 (List.getElem_mem hi);obtain⟨k,_,hk1,_⟩:=hsm.1 _ hs;refine⟨k,hk1,?_,?_⟩
  ·simp only[List.getElem?_map,List.getElem?_eq_getElem hi,Option.map_some,zR7];rw[hk1]
  ·obtain⟨v,hv,e⟩:=List.mem_map.1 hs;obtain⟨hv,e0⟩:=List.mem_filter.1 hv;obtain⟨m1,m2⟩:=hm v hv;refine List.any_eq_true.2 ⟨v,m1,?_⟩;rw[e0,m2,Bool.and_eq_true];exact⟨by simp,beq_iff_eq.2 e⟩
 ·obtain⟨v,hv,e⟩:=List.mem_flatMap.1 (wI.1 hs);obtain⟨hv,e0⟩:=List.mem_filter.1 hv;obtain⟨m1,m2⟩:=hm v hv;refine List.any_eq_true.2 ⟨v,m1,?_⟩;have hh:zbz l s v=true:=by
   unfold zVT at e;split at e
   ·cases e
   ·rename_i k hk;refine List.any_eq_true.2 ⟨k,List.mem_of_find?_eq_some hk,?_⟩;have:=List.find?_some hk;rw[Bool.and_eq_true];exact⟨this,List.any_eq_true.2 ⟨s,e,by simp⟩⟩
  rw[e0,m2,hh];simp
 ·obtain⟨v,hv,e⟩:=List.mem_map.1 (wI.1 hs);obtain⟨hv,e0⟩:=List.mem_filter.1 hv;obtain⟨m1,m2⟩:=hm v hv;refine List.any_eq_true.2 ⟨v,m1,?_⟩;rw[e0,m2,Bool.and_eq_true];exact⟨by simp,beq_iff_eq.2 e⟩
set_option maxHeartbeats 8000000 in
theorem zJe {c:Cat} {ca cb ce cp x ta oa ld n1 n2 n3 n4:D} (hc:qt c (.agg [ca,cb,ce,cp])) (hs:c.Sm) {fs:List Fac} (hx:zV 12 (zJj fs) x) (hln:fs.length≤1048576) (hok:∀f∈fs,f.Ok0) {y:Cho} (hy:zMP y (.agg [ta,oa])) (hys:y.Sm) {l:List Con} (hl:zV 8 (cons l) ld) (hn:l.length≤1048576) (hlo:∀x∈l,x.Ok) (out:List UInt8) (g:Heap):
  zA Tryz.prog 3 [.agg [ca,cb,ce,cp,x,ta,oa,ld, .str out,n1,n2,n3,n4]] g fun r _=>r= .bool true:=by
 refine zA.post fun Q hQ=> ?_;have hT:∀h,Q (.bool true) h:=fun h=>hQ _ _ rfl;have haw:=zFE;have hfw:=fun h=>zX7 hc hs hx hln hok hy hys hl hn hlo out h;have p0:zW true 4 [ca,cb,ce,cp,x,ta,oa,ld, .str out,n1,n2,n3,n4] 0=some (.agg [ca,cb,ce,cp]):=by simp[zW]
 have p5:zW true 2 [ca,cb,ce,cp,x,ta,oa,ld, .str out,n1,n2,n3,n4] 5=some (.agg [ta,oa]):=by simp[zW]
 clear hQ;refine zA.of_fn (g:=zdG) mix Tryz.func3 ok3 rfl rfl ?_;simp only[Tryz.f3,gJ]
 repeat' first|simp only[go_sem,mu3, *]|apply bc<;>intro hc|(refine zA.mono (haw _) ?_;rintro r h ⟨rfl,hq⟩)
 refine(hfw _).mono ?_;rintro r h ⟨hq,b,rfl,hF⟩;subst hq;clear haw hfw;cases b with
 |false=>
  clear hF
  repeat' first|simp only[go_sem,mu3, *]|apply bc<;>intro hc
 |true=>
 obtain⟨hF,h25⟩:=hF rfl;have hok1:∀f∈fs,f.Ok:=fun f hf=>(hok f hf).ok (hF.2 f hf);have I:CIn c fs y (.agg [ca,cb,ce,cp]) x (.agg [ta,oa]):=⟨hc,hs,hx,hln,hF.1.1,hok1,hy,hys⟩;have hmk:=fun h=>zbx I hl hn hlo h25 out h;have hof:=fun h=>zR3 I h;have hfd:=fun k h=>zKs hc hs k h;have hnx:=fun q=>zYK I (out:=out) hlo q;have hch:=fun q=>(zE5 (c:=c) (fs:=fs) (y:=y) (l:=l) (out:=out) q).1;have hdl:=zMW I;have hmz:zEB c fs y l out≠0→zG8 c fs y l out=Note.zero':=fun q=>by unfold zG8;rw[if_neg (by simpa using q)]
 clear hF h25 hok1 hc hs hx hok hy hys I;generalize zEB c fs y l out=me at *
 generalize zG8 c fs y l out=N at *
 repeat' first|simp only[go_sem,mu3, *]|apply bc<;>intro hc
 refine(hmk _).mono ?_;rintro r h2 ⟨hq,r0,rfl,⟨a1,a2,a3,a4,rfl,ha1,ha2,ha3,ha4⟩,_⟩;subst hq;clear hmk;have hstN:zX Tryz.prog 36 (.ptr h2.next 0) (.agg [a1,a2,a3,a4]) (h2.new h2.next (.row nl4))=some (h2.new h2.next (.row [a1,a2,a3,a4])):=zj zMy (by omega) rfl rfl (by show(a1.flat&&(a2.flat&&(a3.flat&&(a4.flat&&true))))=true;rw[(zp ha1).2.2,(zp ha2).2.2,(zp ha3).2.2,(zp ha4).2.2];rfl);obtain⟨n0,hn0⟩:∃n,h2.next=n:=⟨_,rfl⟩;rw[hn0] at hstN;obtain⟨G,hG,hGr,hGn⟩:∃G,h2.new n0 (.row [a1,a2,a3,a4])=G∧G.at' n0=some (.row [a1,a2,a3,a4])∧G.next=n0+1:=⟨_,rfl,zM _ _ _,by rw[←hn0,zO]⟩;rw[hG] at hstN
 have hvN:zW true 4 [a1,a2,a3,a4] 0=some (.agg [a1,a2,a3,a4]):=zB rfl (by omega);cases me0:(me==0) with
 |false=>
  have hme:me≠0:=by simpa using me0
  have hNz:=hmz hme;subst hNz;have hb0:yc Tryz.prog 36 []=some (.agg nl4):=by simp[yc,zHu,zMz,wO,D.notTuple,D.cells]
  have hsa:=fun h=>zbb (x:= .agg [a1,a2,a3,a4]) (y:= .agg nl4) ⟨_,_,_,_,rfl,ha1,ha2,ha3,ha4⟩ ⟨_,_,_,_,rfl,zV.nil,zV.nil,zV.nil,zV.nil⟩ ⟨⟨Nat.zero_le _,fun s h=>by cases h⟩,⟨Nat.zero_le _,fun s h=>by cases h⟩,⟨Nat.zero_le _,fun s h=>by cases h⟩,⟨Nat.zero_le _,fun s h=>by cases h⟩⟩ h;clear hmz hnx hch hdl hof hfd ha1 ha2 ha3 ha4 hl hlo
  repeat' first|simp only[go_sem,mu3, *]|apply bc<;>intro hc|(refine zA.mono (hsa _) ?_;rintro r h ⟨hq,rfl⟩)
 |true=>
 have hme:me=0:=by simpa using me0
 subst hme;have W:=hnx rfl;have e1:=hch rfl;have hLl:=hdl e1;rw[e1] at hof;clear hmz hnx hch hdl me0;obtain⟨L,hL⟩:∃L,zG7 c fs y=L:=⟨_,rfl⟩;rw[hL] at W hLl;have t1:=yE ha1;have t2:=yE ha2;have t3:=yE ha3;have t4:=yE ha4;have ts0:((N.ts.length:Int)==(N.ls.length:Int))=true:=by rw[W.tl];simp
 repeat' first|simp only[go_sem,mu3, *]|apply bc<;>intro hc
 refine(hof _).mono ?_;rintro r h3 ⟨hq,dl,rfl,hl2⟩;subst hq;have hls:zV 7 (L.map qB) dl:=by rw[←hL];exact(hl2 rfl).isSl
 clear hof hl2 hL;obtain⟨q1,q2,q3⟩:=zp hls;have hstL:zX Tryz.prog 45 (.ptr (n0+1) 0) dl (h3.new (n0+1) (.row [.nilsl]))=some (h3.new (n0+1) (.row [dl])):=by
  rw[zT (off:=0) (zM _ _ _) zUI (by simp) q1 q3,zA3];rfl
 obtain⟨G2,hG2,hGn2,hGr2,hE2⟩:=qk h3 (.row [dl]);rw[hGn] at hG2 hGn2 hGr2;rw[hG2] at hstL;have hGr1:G2.at' n0=some (.row [a1,a2,a3,a4]):=by rw[hE2.2 _ (by omega)];exact hGr
 have hGn2:n0+1<G2.next:=by omega
 clear hE2 hG2 hG hn0
 repeat' first|simp only[go_sem,mu3, *]|apply bc<;>intro hc
 refine zC (fun i fr h'=>fr 1= .iptr [ca,cb,ce,cp,x,ta,oa,ld, .str out,n1,n2,n3,n4] 0∧fr 3= .ptr n0 0∧fr 7= .fn (.func 11) [] [.ptr (n0+1) 0, .iptr [ca,cb,ce,cp,x,ta,oa,ld, .str out,n1,n2,n3,n4] 0]∧fr 72=a1∧fr 73= .int .i64 (N.ls.length:Int)∧fr 74= .int .i64 (i:Int)∧h'.at' n0=some (.row [a1,a2,a3,a4])∧h'.at' (n0+1)=some (.row [dl])∧n0+1<h'.next) N.ls.length (by have:=W.l1;omega) ?_ ?_ ?_
 ·simp only[go_sem,mu3,true_and,and_true,Int.ofNat_zero,hGr1,hGr2,hGn2]
 ·clear hGr hGn hGr1 hGr2 hGn2 hstN hstL hn ts0;rintro i fr h4 hlt ec ew ⟨f1,f3,f7,f72,f73,f74,r1,r2,hnx⟩;obtain⟨k,hk1,hk2,hk3⟩:=W.lic i hlt;have a1':=qI ha1 hlt;have hti:i<N.ts.length:=by rw[W.tl];exact hlt
  have a2':=qI ha2 hti;rw[List.getElem?_eq_getElem hti] at hk2;rw[Option.some.inj hk2] at a2';clear hk2;generalize N.ls[i]=s at *
  have hst9:zX Tryz.prog 9 (.ptr h4.next 0) (.str s) (h4.new h4.next (.row [.str []]))=some (h4.new h4.next (.row [.str s])):=by
   rw[zT (off:=0) (zM _ _ _) qH (by simp) rfl rfl,zA3];rfl
  obtain⟨G3,hG3,hG3n,g9,hE3⟩:=qk h4 (.row [.str s]);rw[hG3] at hst9;have r13:G3.at' n0=some (.row [a1,a2,a3,a4]):=by rw[hE3.2 _ (by omega)];exact r1
  have r23:G3.at' (n0+1)=some (.row [dl]):=by rw[hE3.2 _ (by omega)];exact r2
  have hst10:zX Tryz.prog 56 (.ptr (h4.next+1) 0) (.agg [.str k.name, .str k.fam, .int .i64 k.ver, .str k.text]) (G3.new (h4.next+1) (.row zDt))=some (G3.new (h4.next+1) (.row [.str k.name, .str k.fam, .int .i64 k.ver, .str k.text])):=zj zCq (by omega) rfl rfl rfl;obtain⟨G4,hG4,hG4n,g10,hE4⟩:=qk G3 (.row [.str k.name, .str k.fam, .int .i64 k.ver, .str k.text]);rw[hG3n] at hG4 hG4n g10;rw[hG4] at hst10;have r14:G4.at' n0=some (.row [a1,a2,a3,a4]):=by rw[hE4.2 _ (by omega)];exact r13
  have r24:G4.at' (n0+1)=some (.row [dl]):=by rw[hE4.2 _ (by omega)];exact r23
  have g9':G4.at' h4.next=some (.row [.str s]):=by rw[hE4.2 _ (by omega)];exact g9
  have hfs:=hfd s;have hfD:zBO c s= .tuple [.agg [.str k.name, .str k.fam, .int .i64 k.ver, .str k.text], .bool true]:=by unfold zBO;rw[hk1]
  rw[hfD] at hfs;have hdu:=zYJ (ca:=ca) (cb:=cb) (ce:=ce) (cp:=cp) (x:=x) (ta:=ta) (oa:=oa) (ld:=ld) (out:=out) (n1:=n1) (n2:=n2) (n3:=n3) (n4:=n4) hls hLl (f:=15) (cap:=[.ptr h4.next 0]) (kd:=0) (p:=fun v=>v.2.2.1==s) (h:=G4) r24 fun v _=>zfH g9';rw[hk3] at hdu;have hnx':n0+1<h4.next+1+1:=by omega
  have hnn:(k.text==k.text)=true:=by simp
  clear hE3 hE4 hG3 hG4 hfd W hls hLl hl hlo hk1 hk3 hfD ha1 ha2 ha3 ha4 hlt hti
  repeat' first|simp only[go_sem,mu3, *]|apply bc<;>intro hc|(refine zA.mono (hfs _) ?_;rintro r h ⟨hq,rfl⟩)
  clear hfs;refine yy Heap.emp [(0, .no,false),(1, .no,false),(2, .no,false),(3, .no,false),(4, .no,false),(5, .no,false),(6, .no,false),(7, .no,false),(8, .no,false),(9, .no,false),(10, .no,false),(11, .no,false),(12, .no,false),(13, .no,false),(14, .no,false),(15, .no,false),(16, .no,false),(17, .no,false)] (by kernel_rfl) (by kernel_rfl) (fun i ob e=>by cases e) ?_
  repeat' first|simp only[go_sem,mu3, *]|apply bc<;>intro hc|(refine zA.mono hdu ?_;rintro r h ⟨hq,rfl⟩)
 ·clear hGr hGn hGr1 hGr2 hGn2 hstN hstL ts0 t1 t2 ha1 ha2;rintro fr h4 ec ⟨f1,f3,f7,f72,f73,f74,r1,r2,hnx⟩
  repeat' first|simp only[go_sem,mu3, *]|apply bc<;>intro hc
  refine zC (fun i fr h'=>fr 1= .iptr [ca,cb,ce,cp,x,ta,oa,ld, .str out,n1,n2,n3,n4] 0∧fr 3= .ptr n0 0∧fr 7= .fn (.func 11) [] [.ptr (n0+1) 0, .iptr [ca,cb,ce,cp,x,ta,oa,ld, .str out,n1,n2,n3,n4] 0]∧fr 106=a3∧fr 107= .int .i64 (N.hs.length:Int)∧fr 108= .int .i64 (i:Int)∧h'.at' n0=some (.row [a1,a2,a3,a4])∧h'.at' (n0+1)=some (.row [dl])∧n0+1<h'.next) N.hs.length (by have:=W.l3;omega) ?_ ?_ ?_
  ·simp only[go_sem,mu3,true_and,and_true,Int.ofNat_zero,f1,f3,f7,r1,r2,hnx]
  ·clear f1 f3 f7 f72 f73 f74 r1 r2 hnx ec t3 t4;rintro i fr h5 hlt ec ew ⟨f1,f3,f7,f106,f107,f108,r1,r2,hnx⟩;have a3':=qI ha3 hlt;have hk3:=W.hld _ (List.getElem_mem hlt);generalize N.hs[i]=s at *
   have hst9:zX Tryz.prog 9 (.ptr h5.next 0) (.str s) (h5.new h5.next (.row [.str []]))=some (h5.new h5.next (.row [.str s])):=by
    rw[zT (off:=0) (zM _ _ _) qH (by simp) rfl rfl,zA3];rfl
   obtain⟨G3,hG3,hG3n,g9,hE3⟩:=qk h5 (.row [.str s]);rw[hG3] at hst9;have r13:G3.at' n0=some (.row [a1,a2,a3,a4]):=by rw[hE3.2 _ (by omega)];exact r1
   have r23:G3.at' (n0+1)=some (.row [dl]):=by rw[hE3.2 _ (by omega)];exact r2
   have hdu:=zYJ (ca:=ca) (cb:=cb) (ce:=ce) (cp:=cp) (x:=x) (ta:=ta) (oa:=oa) (ld:=ld) (out:=out) (n1:=n1) (n2:=n2) (n3:=n3) (n4:=n4) hls hLl (f:=16) (cap:=[.iptr [ca,cb,ce,cp,x,ta,oa,ld, .str out,n1,n2,n3,n4] 0, .ptr h5.next 0]) (kd:=1) (p:=zbz l s) (h:=G3) r23 fun v _=>zfJ hl hn hlo g9;rw[hk3] at hdu;have hnx':n0+1<h5.next+1:=by omega
   clear hE3 hG3 hfd W hls hLl hl hlo hk3 ha3 ha4 hlt
   repeat' first|simp only[go_sem,mu3, *]|apply bc<;>intro hc|(refine zA.mono hdu ?_;rintro r h ⟨hq,rfl⟩)
  ·clear f1 f3 f7 f72 f73 f74 r1 r2 hnx ec t3 ha3;rintro fr h5 ec ⟨f1,f3,f7,f106,f107,f108,r1,r2,hnx⟩
   repeat' first|simp only[go_sem,mu3, *]|apply bc<;>intro hc
   refine zC (fun i fr h'=>fr 1= .iptr [ca,cb,ce,cp,x,ta,oa,ld, .str out,n1,n2,n3,n4] 0∧fr 7= .fn (.func 11) [] [.ptr (n0+1) 0, .iptr [ca,cb,ce,cp,x,ta,oa,ld, .str out,n1,n2,n3,n4] 0]∧fr 118=a4∧fr 119= .int .i64 (N.cs.length:Int)∧fr 120= .int .i64 (i:Int)∧h'.at' (n0+1)=some (.row [dl])∧n0+1<h'.next) N.cs.length (by have:=W.l4;omega) ?_ ?_ ?_
   ·simp only[go_sem,mu3,true_and,and_true,Int.ofNat_zero,f1,f7,r2,hnx]
   ·clear f1 f3 f7 f106 f107 f108 r1 r2 hnx ec t4;rintro i fr h6 hlt ec ew ⟨f1,f7,f118,f119,f120,r2,hnx⟩;have a4':=qI ha4 hlt;have hk3:=W.chg _ (List.getElem_mem hlt);generalize N.cs[i]=s at *
    have hst9:zX Tryz.prog 9 (.ptr h6.next 0) (.str s) (h6.new h6.next (.row [.str []]))=some (h6.new h6.next (.row [.str s])):=by
     rw[zT (off:=0) (zM _ _ _) qH (by simp) rfl rfl,zA3];rfl
    obtain⟨G3,hG3,hG3n,g9,hE3⟩:=qk h6 (.row [.str s]);rw[hG3] at hst9;have r23:G3.at' (n0+1)=some (.row [dl]):=by rw[hE3.2 _ (by omega)];exact r2
    have hdu:=zYJ (ca:=ca) (cb:=cb) (ce:=ce) (cp:=cp) (x:=x) (ta:=ta) (oa:=oa) (ld:=ld) (out:=out) (n1:=n1) (n2:=n2) (n3:=n3) (n4:=n4) hls hLl (f:=20) (cap:=[.ptr h6.next 0]) (kd:=2) (p:=fun v=>v.2.1==s) (h:=G3) r23 fun v _=>zfI g9;rw[hk3] at hdu;have hnx':n0+1<h6.next+1:=by omega
    clear hE3 hG3 hfd W hls hLl hl hlo hk3 ha4 hlt
    repeat' first|simp only[go_sem,mu3, *]|apply bc<;>intro hc|(refine zA.mono hdu ?_;rintro r h ⟨hq,rfl⟩)
   ·clear f1 f3 f7 f106 f107 f108 r1 r2 hnx ec t4;rintro fr h6 ec ⟨f1,f7,f118,f119,f120,r2,hnx⟩
    repeat' first|simp only[go_sem,mu3, *]|apply bc<;>intro hc
end Go.V
