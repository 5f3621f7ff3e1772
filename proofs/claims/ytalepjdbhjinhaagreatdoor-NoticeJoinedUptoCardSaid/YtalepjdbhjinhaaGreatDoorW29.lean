/- A machine of abstract values for programs of the model, further rules, part 2. No condition. -/
import Derived.Test.YtalepjdbhjinhaaGreatDoorW20
import Derived.Ground.Names2Prog
import Derived.Shelf.Slices.Delete
import Derived.Test.YtalepjdbhjinhaaGreatDoorProg
import Derived.Test.YtalepjdbhjinhaaGreatDoorW04
import Derived.Test.YtalepjdbhjinhaaGreatDoorW28
import Derived.Test.YtalepjdbhjinhaaGreatDoorW22
set_option linter.all false
namespace Go.V
open Go.RowKit (Below)
inductive Pl where
 |nil
 |op (i:Nat) (f:Fl) (r:Pl)
 |or (a b:Pl)
section
variable {P:Program} {mu:Tmp→Bool} {c:Ctx P} {ms:List Nat} {n:Nat} {fr:Frm} {h h0:Heap} {a:Act} {w:World} {Q:Exit→Act→World→Prop} {ro:Option Nat} {ops:Array Oper} {K:Frm→Heap→Prop}
end
section
variable {P:Program} {g:Cfg} {c:Ctx P} {ms:List Nat} {n:Nat} {fr:Frm} {h:Heap} {a:Act} {w:World} {ro rb:Option Nat} {k:Nat} {pl:Pl}
end
section
variable {P:Program} {g:Cfg} {n:Nat} {ro:Option Nat} {k:Nat} {pl:Pl} {mu:Tmp→Bool} {h0:Heap} {Q:Exit→Frm→Heap→Prop} {fr:Frm} {h:Heap} {K:Frm→Heap→Prop}
def Heap.one (i:Nat) (o:Obj):Heap:=⟨0,fun j=>if j=i then some o else none⟩
theorem zS7 (i:Nat) (o:Obj):(Heap.one i o).at' i=some o:=if_pos rfl
theorem zS8 {i:Nat} {o:Obj} :HLe (Heap.one i o) h=(h.at' i=some o):=by
 apply propext;constructor
 ·exact fun q=>q i o (zS7 i o)
 ·intro q j ob hj;simp only[Heap.one] at hj;split at hj
  ·rename_i e;subst e;cases hj;exact q
  ·cases hj
end
end Go.V
namespace Go.Proofs
open Go.Shelf
def Tryz.laysNm224_ren:Go.Shelf.Ren:=⟨fun|24=>27|n=>n,fun|24=>31|9=>9|3=>3|4=>4|0=>0|n=>n,fun|n=>n⟩
theorem Tryz.laysNm224:Go.Proofs.Lays2.n24 Tryz.prog Tryz.laysNm224_ren:= {
 mixed:=by kernel_rfl
 f24:=Tryz.func27.trans (congrArg some (by kernel_rfl))
 t0:=Tryz.underlying0
 a0:=Tryz.isAgg0
 z0:=Tryz.sizeOf0
 v0:=Tryz.zeroValue0
 t3:=Tryz.underlying3
 a3:=Tryz.isAgg3
 z3:=Tryz.sizeOf3
 v3:=Tryz.zeroValue3
 t4:=Tryz.underlying4
 a4:=Tryz.isAgg4
 z4:=Tryz.sizeOf4
 v4:=Tryz.zeroValue4
 t9:=Tryz.underlying9
 a9:=Tryz.isAgg9
 z9:=Tryz.sizeOf9
 v9:=Tryz.zeroValue9
 t24:=Tryz.underlying31
 a24:=Tryz.isAgg31
 z24:=Tryz.sizeOf31
 v24:=Tryz.zeroValue31
 i9:=by kernel_rfl }
open Go.RowKit Go.Lib Go.Sort in
theorem Tryz.slices_Delete_string (blk off cap i j:Nat) (zs:List (List UInt8)) (w:World) (hH:Holds encStr w blk off zs.toArray) (hcap:zs.length≤cap) (hm:cap≤9223372036854775807) (hij:i≤j) (hj:j≤zs.length):
  Calls Tryz.prog 27 #[.slice (some ⟨blk,off,none⟩) zs.length cap, .int .i64 i, .int .i64 j] w fun e w'=>e= .returned (.slice (some ⟨blk,off,none⟩) (zs.length- (j-i)) cap)∧∃q,w'=putRow encStr (Sort.ahead w q) blk off (zs.take i++zs.drop j++List.replicate (j-i) []).toArray:=Any.slices_Delete_string Tryz.laysNm224 blk off cap i j zs w hH hcap hm hij hj
end Go.Proofs
namespace Go.V
open Go.RowKit (Below)
section
variable {w0:Base} {G:List Nat} {M:Imm} {ρ:Ren} {h:Heap} {w:World} {id:Nat} {cs:List D}
end
def ww:List (Str×Str)→KV→Option KV
 | [],m=>some m
 |(k,v)::ps,m=>match wQ k m with
  |some t=>if t==v then ww ps (zDm k v m) else none
  |none=>ww ps (zDm k v m)
theorem zCH:∀ {ps:List (Str×Str)} {m m':KV},ww ps m=some m'→(∀k v,(k,v)∈ps→wQ k m'=some v)∧∀k v,wQ k m=some v→wQ k m'=some v
 | [],m,m',h=>by
  simp only[ww,Option.some.injEq] at h;subst h;exact⟨fun k v hx=>(by cases hx),fun k v hx=>hx⟩
 |(k,v)::ps,m,m',h=>by
  have key:ww ps (zDm k v m)=some m'→(∀w,wQ k m=some w→w=v)→(∀k' v',(k',v')∈(k,v)::ps→wQ k' m'=some v')∧∀k' v',wQ k' m=some v'→wQ k' m'=some v':=fun h hw=>by
   obtain⟨h1,h2⟩:=zCH h;have hk:wQ k m'=some v:=h2 k v (by rw[zEa];simp);refine⟨fun k' v' hx=> ?_,fun k' v' hx=> ?_⟩
   ·rcases List.mem_cons.1 hx with e|hx
    ·cases e;exact hk
    ·exact h1 k' v' hx
   ·by_cases e:k'=k
    ·subst e;rw[hw v' hx];exact hk
    ·exact h2 k' v' (by rw[zEa];simp[e,hx])
  simp only[ww] at h;cases hg:wQ k m with
  |none=>rw[hg] at h;exact key h fun w e=>by rw[hg] at e;cases e
  |some t=>
   rw[hg] at h;simp only at h;split at h
   ·rename_i ht;exact key h fun w e=>by rw[hg] at e;cases e;simpa using ht
   ·cases h
def Agr (ps:List (Str×Str)):Prop:=∀k v w,(k,v)∈ps→(k,w)∈ps→v=w
theorem zL1:∀ {ps:List (Str×Str)} {m:KV},Agr ps→(∀k v w,(k,v)∈ps→wQ k m=some w→v=w)→∃m',ww ps m=some m'
 | [],m,_,_=>⟨m,rfl⟩
 |(k,v)::ps,m,h1,h2=>by
  have ih:∃m',ww ps (zDm k v m)=some m':=zL1 (fun k' v' w' ha hb=>h1 k' v' w' (List.mem_cons_of_mem _ ha) (List.mem_cons_of_mem _ hb)) fun k' v' w' ha hb=>by
   rw[zEa] at hb;by_cases e:k'=k
   ·subst e;simp only[beq_self_eq_true,if_true,Option.some.injEq] at hb;subst hb;exact h1 k' v' v (List.mem_cons_of_mem _ ha) (List.mem_cons_self ..)
   ·rw[if_neg (by simpa using e)] at hb;exact h2 k' v' w' (List.mem_cons_of_mem _ ha) hb
  simp only[ww];cases hg:wQ k m with
  |none=>exact ih
  |some t=>
   have:=h2 k v t (List.mem_cons_self ..) hg;subst this;simpa using ih
theorem zI9 {ps:List (Str×Str)} (h:Agr ps):∃m,ww ps []=some m:=zL1 h fun k v w _ e=>by cases e
def zDo (n:Note):List (Str×Str):=n.ls.zip n.ts
def qY (a b:Note) (m:KV):Note:=⟨zV (a.ls++b.ls),(zV (a.ls++b.ls)).map fun s=>(wQ s m).getD [],zV (a.hs++b.hs),zV (a.cs++b.cs)⟩
def Note.zero:Note:=⟨[],[],[],[]⟩
def zDW (a b:Note):Note×Int:=
 if zw a≠0 then(.zero,zw a) else if zw b≠0 then(.zero,zw b) else
 match ww (zDo a++zDo b) [] with
 |none=>(.zero,9)
 |some m=>if zw (qY a b m)≠0 then(.zero,zw (qY a b m)) else(qY a b m,0)
theorem zHb {e:Nat→Int} {l:List Str} (h:zAh e l=0):Inc l:=by
 unfold zAh at h;have h0:=zAO.1 h;have step:∀i (hi:i+1<l.length),l[i]<l[i+1]:=fun i hi=>by
  have:=h0 (i+1) hi;unfold zBJ at this;by_cases q:e (i+1)≠0
  ·rw[if_pos q] at this;exact absurd this q
  ·rw[if_neg q] at this;have g1:l.getD (i+1) []=l[i+1]:=wJ hi;have g2:l.getD i []=l[i]:=wJ (by omega);simp only[Nat.add_sub_cancel,g1,g2] at this;rw[←List.not_le];intro hle;have hl:leS l[i+1] l[i]=true:=by
    unfold leS;rw[zFK];by_cases q:l[i+1]=l[i]
    ·simp[q]
    ·rw[decide_eq_true (zFt hle q)];rfl
   rw[if_pos ⟨by omega,hl⟩] at this;exact absurd this (by decide)
 have far:∀d i (hi:i+d+1<l.length),l[i]<l[i+d+1]:=fun d=>by
  induction d with
  |zero=>exact fun i hi=>step i hi
  |succ d ih=>exact fun i hi=>zFu (ih i (by omega)) (step (i+d+1) hi)
 refine List.pairwise_iff_getElem.2 fun i j hi hj hij=> ?_;obtain⟨d,rfl⟩:∃d,j=i+d+1:=⟨j-i-1,by omega⟩;exact far d i hj
theorem zAU {n:Note} (h:zw n=0):n.ls.length≤1024∧n.hs.length≤1024∧n.cs.length≤1024∧n.ts.length=n.ls.length∧Inc n.ls∧Inc n.hs∧Inc n.cs:=by
 unfold zw at h;split at h
 ·cases h
 rename_i h1;split at h
 ·cases h
 rename_i h2;split at h
 ·rename_i h3;exact absurd h h3
 rename_i h3;split at h
 ·rename_i h4;exact absurd h h4
 rename_i h4;exact⟨by omega,by omega,by omega,by omega,zHb (Decidable.not_not.1 h3),zHb (Decidable.not_not.1 h4),zHb h⟩
theorem zS9 {ls ts:List Str} {k v:Str} (h:(k,v)∈ls.zip ts):k∈ls∧v∈ts:=List.of_mem_zip h
theorem zTA {ls ts:List Str} (h:ts.length=ls.length) {k:Str} (hk:k∈ls):∃v,(k,v)∈ls.zip ts:=by
 obtain⟨i,hi,rfl⟩:=List.mem_iff_getElem.1 hk;refine⟨ts[i],?_⟩;rw[List.mem_iff_getElem];exact⟨i,by rw[List.length_zip];omega,by rw[List.getElem_zip]⟩
theorem zO5 {a b:Note} {m:KV} (h1:zw a=0) (h2:zw b=0) (h3:ww (zDo a++zDo b) []=some m):zDW a b=if zw (qY a b m)≠0 then(.zero,zw (qY a b m)) else(qY a b m,0):=by
 unfold zDW;rw[if_neg (by simp[h1]),if_neg (by simp[h2]),h3]
theorem zDp {a b:Note} (ha:a.ts.length=a.ls.length) (hb:b.ts.length=b.ls.length) {s:Str} (hs:s∈zV (a.ls++b.ls)):∃v,(s,v)∈zDo a++zDo b:=by
 rcases List.mem_append.1 (zl.1 hs) with h|h
 ·obtain⟨v,hv⟩:=zTA ha h;exact⟨v,List.mem_append_left _ hv⟩
 ·obtain⟨v,hv⟩:=zTA hb h;exact⟨v,List.mem_append_right _ hv⟩
theorem zL2 {a b:Note} {m:KV} (hsa:a.Sm) (hsb:b.Sm) (h1:zw a=0) (h2:zw b=0) (h3:ww (zDo a++zDo b) []=some m):(qY a b m).Sm:=by
 obtain⟨la1,la2,la3,la,_⟩:=zAU h1;obtain⟨lb1,lb2,lb3,lb,_⟩:=zAU h2;have both:∀ {l1 l2:List Str},SmL l1→SmL l2→l1.length≤1024→l2.length≤1024→SmL (zV (l1++l2)):=fun s1 s2 e1 e2=>by
  refine⟨?_,fun s hs=> ?_⟩
  ·refine Nat.le_trans (zCF _) ?_;rw[List.length_append];omega
  ·rcases List.mem_append.1 (zl.1 hs) with q|q
   ·exact s1.2 s q
   ·exact s2.2 s q
 have hls:=both hsa.ls hsb.ls la1 lb1;refine⟨hls,⟨?_,fun s hs=> ?_⟩,both hsa.hs hsb.hs la2 lb2,both hsa.cs hsb.cs la3 lb3⟩
 ·simp only[qY,List.length_map];exact hls.1
 ·simp only[qY] at hs;obtain⟨k,hk,rfl⟩:=List.mem_map.1 hs;obtain⟨v,hv⟩:=zDp la lb hk;rw[(zCH h3).1 k v hv];rcases List.mem_append.1 hv with q|q
  ·exact hsa.ts.2 v (zS9 q).2
  ·exact hsb.ts.2 v (zS9 q).2
open Go.Proofs
set_option maxRecDepth 100000
def zKT:List UInt8:=[108,105,99,101,110,115,101,32]
def zZg:List UInt8:=[104,111,108,100,101,114]
def zhJ:List UInt8:=[99,104,97,110,103,101]
theorem zDX {sz:Nat} {xs:List (List D)} {d:D} (hd:zX sz xs d):d.flat=true∧d.cells= [d]∧d.notTuple=true:=by
 rcases hd with⟨rfl,_⟩ | ⟨tk,rfl⟩ <;>exact⟨rfl,rfl,rfl⟩
theorem zZh {a b c e:D} (h1:a.flat=true) (h2:b.flat=true) (h3:c.flat=true) (h4:e.flat=true): [a,b,c,e].all D.flat=true:=by simp[h1,h2,h3,h4]
theorem zIA.strip {l:List (List UInt8)} {d:D} (hf:zIA l d):below 0 (V.yC d)∧zX 1 (zt l) (V.yC d):=by
 rcases hf with⟨rfl,rfl⟩ | ⟨_,rfl⟩
 ·exact⟨trivial,zX.nil⟩
 ·rw[(yN (sz:=1) yW .no).1];exact⟨(yN (sz:=1) yW .no).2,zX.mk _⟩
def zIP (l:List (List UInt8)):D:=if l= [] then .nilsl else .sl 1 (zt l) .no
theorem zIA.eq {l:List (List UInt8)} {d:D} (hf:zIA l d):d=zIP l:=by
 unfold zIP;rcases hf with⟨e,rfl⟩ | ⟨e,rfl⟩
 ·rw[if_pos e]
 ·rw[if_neg e]
theorem zGc (l:List (List UInt8)):zIA l (zIP l):=by
 unfold zIP;by_cases e:l= []
 ·rw[if_pos e];exact .inl ⟨e,rfl⟩
 ·rw[if_neg e];exact .inr ⟨e,rfl⟩
abbrev zGE:List D:=[.nilsl, .nilsl, .nilsl, .nilsl]
def zO6 (n:Note×Int) (r:D):Prop:=∃d,r= .tuple [d, .int .i64 n.2]∧zBw n.1 d
theorem zP6 {n:Note×Int} {k:Int} (h:n=(.zero,k)):below 0 (yC (.tuple [.agg zGE, .int .i64 k]))∧zO6 n (yC (.tuple [.agg zGE, .int .i64 k])):=by
 subst h;have e:yC (.tuple [.agg zGE, .int .i64 k])= .tuple [.agg zGE, .int .i64 k]:=by simp[yC,yh]
 rw[e];exact⟨by simp[below,yB], .agg zGE,rfl, .nilsl, .nilsl, .nilsl, .nilsl,rfl,zX.nil,zX.nil,zX.nil,zX.nil⟩
theorem zP7 {n:Note} {a b c e:D} {h:Heap} (h1:zIA n.ls a) (h2:wI h 1 (zt n.ts) b) (h3:zIA n.hs c) (h4:zIA n.cs e):below 0 (yC (.tuple [.agg [a,b,c,e], .int .i64 0]))∧zO6 (n,0) (yC (.tuple [.agg [a,b,c,e], .int .i64 0])):=by
 have e:yC (.tuple [.agg [a,b,c,e], .int .i64 0])= .tuple [.agg [yC a,yC b,yC c,yC e], .int .i64 0]:=by simp[yC,yh]
 rw[e];have q:=h2.fin yW;refine⟨?_,_,rfl,_,_,_,_,rfl,h1.strip.2,q.2.isSl,h3.strip.2,h4.strip.2⟩;simp[below,yB,h1.strip.1,q.1,h3.strip.1,h4.strip.1]
set_option maxHeartbeats 4000000 in
theorem zZi {a b:Note} {x y:D} (hx:zBw a x) (hy:zBw b y) (hsa:a.Sm) (hsb:b.Sm) (h:Heap):
  zA Tryz.prog 21 [x,y] h fun r h'=>h'=h∧zO6 (zDW a b) r:=by
 obtain⟨a1,a2,a3,a4,rfl,ha1,ha2,ha3,ha4⟩:=hx;obtain⟨b1,b2,b3,b4,rfl,hb1,hb2,hb3,hb4⟩:=hy;refine zA.pure (by kernel_rfl) fun hok=>zA.strip ?_;refine zA.of_fn (g:=zUh) mix Tryz.func21 ziK rfl rfl ?_;simp only[Tryz.f21,gJ];have hvp:∀a b c e:D,ze true 4 [a,b,c,e] 0=some (.agg [a,b,c,e]):=fun a b c e=>zB rfl (by omega);have hb0:yn Tryz.prog 36 []=some (.agg zGE):=by simp[yn,zFD,zGW,wl,D.notTuple,D.cells]
 have hst0:∀H:Heap,zW Tryz.prog 36 (.ptr H.next 0) (.agg zGE) (H.new H.next (.row zGE))=some (H.new H.next (.row zGE)):=fun H=>zg zBE (by omega) rfl rfl rfl;have fin0:∀ {k:Int} {h':Heap},Ext h h'→zDW a b=(.zero,k)→Ext h h'∧below h.next (yC (.tuple [.agg zGE, .int .i64 k]))∧zO6 (zDW a b) (yC (.tuple [.agg zGE, .int .i64 k])):=fun hE hm=>by
  have:=zP6 hm;exact⟨hE,zu (Nat.zero_le _) _ this.1,this.2⟩
 have hE0:Ext h (h.new h.next (.row zGE)):=(Ext.refl h).new (Nat.le_refl _) _;simp only[go_sem,Nat.reduceEqDiff,↓reduceIte,zUF,List.contains_cons,Nat.reduceBEq,hvp];refine(zHa ⟨a1,a2,a3,a4,rfl,ha1,ha2,ha3,ha4⟩ hsa _).mono ?_;rintro r h2 ⟨rfl,rfl⟩;cases h1:(zw a !=0) with
 |true=>
  simp only[go_sem,Nat.reduceEqDiff,↓reduceIte,hvp,h1,hb0,hst0];exact fin0 hE0 (by unfold zDW;rw[if_pos (by simpa using h1)])
 |false=>
 have k1:zw a=0:=by simpa using h1
 simp only[go_sem,Nat.reduceEqDiff,↓reduceIte,hvp,h1];refine(zHa ⟨b1,b2,b3,b4,rfl,hb1,hb2,hb3,hb4⟩ hsb _).mono ?_;rintro r h2 ⟨rfl,rfl⟩;cases h2:(zw b !=0) with
 |true=>
  simp only[go_sem,Nat.reduceEqDiff,↓reduceIte,hvp,h2,hb0,hst0];exact fin0 hE0 (by unfold zDW;rw[if_neg (by simp[k1]),if_pos (by simpa using h2)])
 |false=>
 have k2:zw b=0:=by simpa using h2
 obtain⟨la1,la2,la3,la,_⟩:=zAU k1;obtain⟨lb1,lb2,lb3,lb,_⟩:=zAU k2;have hbs:∀H:Heap,zS Tryz.prog false H.next 108 2 [(0, .agg [a1,a2,a3,a4]),(1, .agg [b1,b2,b3,b4])] H=some (.sl 4 [[a1,a2,a3,a4],[b1,b2,b3,b4]] .full,H):=fun H=>zBI zLZ zGW zBE rfl rfl (by omega) (by omega) rfl rfl rfl rfl;have hl2:∀H:Heap,zAd Tryz.prog 108 (.sl 4 [[a1,a2,a3,a4],[b1,b2,b3,b4]] .full) H=some (.int .i64 2):=fun H=>zP (zX.mk .full) Tryz.underlying108;obtain⟨R,r0,r1,r2⟩:∃R:Nat→List (Str×Str),R 0=zDo a++zDo b∧R 1=zDo b∧R 2= []:=⟨fun i=>if i=0 then zDo a++zDo b else if i=1 then zDo b else [],rfl,rfl,rfl⟩
 simp only[go_sem,Nat.reduceEqDiff,↓reduceIte,hvp,h2,zK,zUF,List.contains_cons,Nat.reduceBEq,hbs,hl2];refine yG (fun i fr h'=>fr 2= .iptr [a1,a2,a3,a4] 0∧fr 3= .iptr [b1,b2,b3,b4] 0∧fr 4= .ptr h.next 0∧fr 8= .map (h.next+1)∧fr 34= .sl 4 [[a1,a2,a3,a4],[b1,b2,b3,b4]] .full∧fr 35= .int .i64 2∧fr 36= .int .i64 (i:Int)∧
  Ext h h'∧h.next+2≤h'.next∧h'.at' h.next=some (.row zGE)∧∃m,h'.at' (h.next+1)=some (.map (kvD m))∧ww (R 0) []=ww (R i) m) 2 ?_ ?_
 ·simp only[go_sem,Nat.reduceEqDiff,↓reduceIte,true_and];exact⟨rfl,hE0.new (by omega) _,Nat.le_of_eq (yJ (h.new h.next (.row zGE)) (i:=h.next+1) (by rw[zK];exact Nat.le_refl _) _).symm,by rw[zM (by omega),zQ],[],rfl,rfl⟩
 rintro i fr h' hi ⟨f2,f3,f4,f8,f34,f35,f36,hE,hN,hrow,m,hmap,hadd⟩;by_cases hlt:i<2
 ·obtain⟨n,p1,p2,p3,p4,hS,q1,q2,q3,q4,ln,le,hR⟩:∃ (n:Note) (p1 p2 p3 p4:D),[[a1,a2,a3,a4],[b1,b2,b3,b4]][i]? =some [p1,p2,p3,p4]∧zX 1 (zt n.ls) p1∧zX 1 (zt n.ts) p2∧zX 1 (zt n.hs) p3∧zX 1 (zt n.cs) p4∧n.ts.length=n.ls.length∧n.ls.length≤1024∧R i=zDo n++R (i+1):=by
   rcases i with _|_|i
   ·exact⟨a,a1,a2,a3,a4,rfl,ha1,ha2,ha3,ha4,la,la1,by rw[r0,r1]⟩
   ·exact⟨b,b1,b2,b3,b4,rfl,hb1,hb2,hb3,hb4,lb,lb1,by rw[r1,r2,List.append_nil]⟩
   ·omega
  have e1:decide ((i:Int)<2)=true:=decide_eq_true (by omega);have hix:zR Tryz.prog 108 (.sl 4 [[a1,a2,a3,a4],[b1,b2,b3,b4]] .full) (.int .i64 (i:Int))=some (.iptr [p1,p2,p3,p4] 0):=zE (zX.mk _) zLZ zBE hS;have hst:zW Tryz.prog 36 (.ptr h'.next 0) (.agg [p1,p2,p3,p4]) (h'.new h'.next (.row zGE))=some (h'.new h'.next (.row [p1,p2,p3,p4])):=zg zBE (by omega) rfl rfl (zZh (zDX q1).1 (zDX q2).1 (zDX q3).1 (zDX q4).1);have s1:((zt n.ls).length:Int)=n.ls.length:=by rw[zJ]
  simp only[go_sem,Nat.reduceEqDiff,↓reduceIte,zUF,List.contains_cons,Nat.reduceBEq,f2,f3,f4,f8,f34,f35,f36,e1,hix,hvp,hst,zQ,zI,Nat.reduceAdd,Nat.zero_add,zC,List.getElem?_cons_zero,List.getElem?_cons_succ,zP q1 Tryz.underlying31,s1];refine yG (fun j fr h3=>fr 2= .iptr [a1,a2,a3,a4] 0∧fr 3= .iptr [b1,b2,b3,b4] 0∧fr 4= .ptr h.next 0∧fr 8= .map (h.next+1)∧fr 34= .sl 4 [[a1,a2,a3,a4],[b1,b2,b3,b4]] .full∧fr 35= .int .i64 2∧fr 36= .int .i64 (i:Int)∧
   fr 10= .ptr h'.next 0∧fr 41=p1∧fr 42= .int .i64 n.ls.length∧fr 43= .int .i64 (j:Int)∧Ext h h3∧h'.next<h3.next∧h3.at' h.next=some (.row zGE)∧h3.at' h'.next=some (.row [p1,p2,p3,p4])∧∃m,h3.at' (h.next+1)=some (.map (kvD m))∧ww (R 0) []=ww ((zDo n).drop j++R (i+1)) m) n.ls.length ?_ ?_
  ·simp only[go_sem,Nat.reduceEqDiff,↓reduceIte,f2,f3,f4,f8,f34,f35,f36,true_and];exact⟨rfl,hE.new (by omega) _,by rw[zK];omega,by rw[zM (by omega)];exact hrow,m,by rw[zM (by omega)];exact hmap,by rw[hadd,hR,List.drop_zero]⟩
  rintro j fr2 h3 hj ⟨g2,g3,g4,g8,g34,g35,g36,g10,g41,g42,g43,gE,gN,zQh,gcp,m2,gmap,gadd⟩;by_cases hjl:j<n.ls.length
  ·have hjt:j<n.ts.length:=by omega
   have e2:decide ((j:Int)<n.ls.length)=true:=decide_eq_true (by omega);have hlk:=zI8 (t:=107) gmap zKE zIy zCA n.ls[j] true;have hdr:(zDo n).drop j=(n.ls[j],n.ts[j])::(zDo n).drop (j+1):=by
    have hz:j<(zDo n).length:=by unfold zDo;rw[List.length_zip];omega
    rw[List.drop_eq_getElem_cons hz];simp[zDo]
   rw[hdr,List.cons_append,ww] at gadd;obtain⟨h4,hup,u1,u2,u3,u4,u5⟩:∃h4,yU Tryz.prog 107 (.map (h.next+1)) (.str n.ls[j]) (.str n.ts[j]) h3=some h4∧Ext h h4∧h'.next<h4.next∧h4.at' h.next=some (.row zGE)∧h4.at' h'.next=some (.row [p1,p2,p3,p4])∧h4.at' (h.next+1)=some (.map (kvD (zDm n.ls[j] n.ts[j] m2))):=
    ⟨_,zKR gmap zKE zIy _ _,gE.set (by omega) _,gN,by rw[zH (by omega)];exact zQh,by rw[zH (by omega)];exact gcp,zF _ _ _⟩
   have hwr:=zf (show j<lim by unfold lim;omega);cases hg:wQ n.ls[j] m2 with
   |none=>
    rw[hg] at hlk gadd;simp(config:= { maxSteps:=2000000 }) only[go_sem,Nat.reduceEqDiff,↓reduceIte,zUF,List.contains_cons,Nat.reduceBEq,g2,g3,g4,g8,g34,g35,g36,g10,g41,g42,g43,e2,zE q1 zd yu (yy hjl),zE q2 zd yu (yy hjt),hlk,zCO,Option.map_none,Option.map_some,zo,List.getElem?_cons_zero,List.getElem?_cons_succ,gcp,zI,Nat.reduceAdd,Nat.zero_add,zC,hup,hwr];exact⟨hjl,by rw[zf (by unfold lim;omega)],u1,u2,u3,u4,_,u5,gadd⟩
   |some t=>
    rw[hg] at hlk gadd;cases ht:(t==n.ts[j]) with
    |false=>
     have hst4:zW Tryz.prog 36 (.ptr h.next 0) (.agg zGE) h3=some (h3.set h.next (.row zGE)):=qQ zQh zBE rfl (by simp) rfl;simp(config:= { maxSteps:=2000000 }) only[go_sem,Nat.reduceEqDiff,↓reduceIte,zUF,List.contains_cons,Nat.reduceBEq,g2,g3,g4,g8,g34,g35,g36,g10,g41,g42,g43,e2,zE q1 zd yu (yy hjl),zE q2 zd yu (yy hjt),hlk,zCO,Option.map_none,Option.map_some,zo,List.getElem?_cons_zero,List.getElem?_cons_succ,gcp,zI,Nat.reduceAdd,Nat.zero_add,zC,ht,Bool.not_false,hb0,hst4,hvp];refine fin0 (gE.set (Nat.le_refl _) _) ?_;simp only[ht,Bool.false_eq_true,if_false] at gadd;unfold zDW
     rw[if_neg (by simp[k1]),if_neg (by simp[k2]),←r0,gadd]
    |true=>
     simp only[ht,if_true] at gadd;simp(config:= { maxSteps:=2000000 }) only[go_sem,Nat.reduceEqDiff,↓reduceIte,zUF,List.contains_cons,Nat.reduceBEq,g2,g3,g4,g8,g34,g35,g36,g10,g41,g42,g43,e2,zE q1 zd yu (yy hjl),zE q2 zd yu (yy hjt),hlk,zCO,Option.map_none,Option.map_some,zo,List.getElem?_cons_zero,List.getElem?_cons_succ,gcp,zI,Nat.reduceAdd,Nat.zero_add,zC,ht,Bool.not_true,hup,hwr];exact⟨hjl,by rw[zf (by unfold lim;omega)],u1,u2,u3,u4,_,u5,gadd⟩
  ·have hje:j=n.ls.length:=by omega
   subst hje;have e2:decide ((n.ls.length:Int)<n.ls.length)=false:=decide_eq_false (by omega);have hwr:=zf (show i<lim by unfold lim;omega);simp only[go_sem,Nat.reduceEqDiff,↓reduceIte,g2,g3,g4,g8,g34,g35,g36,g10,g41,g42,g43,e2,hwr];rw[List.drop_of_length_le (by unfold zDo;rw[List.length_zip];omega),List.nil_append] at gadd;exact⟨hlt,by rw[zf (by unfold lim;omega)],gE,by omega,zQh,m2,gmap,gadd⟩
 have hie:i=2:=by omega
 subst hie;have e1:decide (((2:Nat):Int)<2)=false:=rfl;have hadd2:ww (zDo a++zDo b) []=some m:=by rw[←r0,hadd,r2];rfl
 have hmg:zDW a b=if zw (qY a b m)≠0 then(.zero,zw (qY a b m)) else(qY a b m,0):=zO5 k1 k2 hadd2
 have hsm:=zL2 hsa hsb k1 k2 hadd2;have hle0:∀H:Heap,HLe ⟨0,fun _=>none⟩ H:=fun H i ob e=>by cases e
 have hle1:∀H:Heap,HLe ⟨0,fun _=>none⟩ H=True:=fun H=>eq_true (hle0 H);have hbp:∀ {l1 l2:List (List UInt8)} {x y:D},zX 1 (zt l1) x→zX 1 (zt l2) y→∀H:Heap,zS Tryz.prog false H.next 182 2 [(0,x),(1,y)] H=some (.sl 1 [[x],[y]] .full,H):=fun {l1 l2 x y} hx hy H=>by
  have q1:=zDX hx;have q2:=zDX hy;rw[zBI (x:=x) (y:=y) zLb zUd zCQ rfl rfl (by omega) (by omega) q1.2.2 (by rw[q1.2.1];rfl) q2.2.2 (by rw[q2.2.1];rfl),q1.2.1,q2.2.1]
 have con:∀ {l1 l2:List (List UInt8)} {x y:D},zX 1 (zt l1) x→zX 1 (zt l2) y→l1.length≤1024→l2.length≤1024→∀H:Heap,zA Tryz.prog 46 [.sl 1 [[x],[y]] .full] H fun r h''=>h''=H∧r=zIP (l1++l2):=fun hx hy e1 e2 H=>
  (zVR hx hy (by omega) (by omega) .full H).mono fun _ _ q=>⟨q.1,zIA.eq q.2⟩
 have srt:∀ {l1 l2:List (List UInt8)} {d:D},l1.length≤1024→l2.length≤1024→zIP (zV (l1++l2))=d→∀H:Heap,zA Tryz.prog 37 [zIP (l1++l2)] H fun r h''=>h''=H∧r=d:=fun e1 e2 e H=>
  (zVS (zGc _) (by rw[List.length_append];omega) H).mono fun _ _ q=>⟨q.1,by rw[←e];exact q.2.eq⟩
 obtain⟨Ld,hL,eL⟩:∃d,zIA (zV (a.ls++b.ls)) d∧zIP (zV (a.ls++b.ls))=d:=⟨_,zGc _,rfl⟩;obtain⟨Hd,hH,eH⟩:∃d,zIA (zV (a.hs++b.hs)) d∧zIP (zV (a.hs++b.hs))=d:=⟨_,zGc _,rfl⟩;obtain⟨Cd,hC,eC⟩:∃d,zIA (zV (a.cs++b.cs)) d∧zIP (zV (a.cs++b.cs))=d:=⟨_,zGc _,rfl⟩;have qL:=zDX hL.isSl;have qH:=zDX hH.isSl;have qC:=zDX hC.isSl;have hbn:yn Tryz.prog 36 [(0,Ld),(2,Hd),(3,Cd)]=some (.agg [Ld, .nilsl,Hd,Cd]):=by
  simp[yn,zFD,zGW,wl,y8,zLk,zSs,qL.2.1,qL.2.2,qH.2.1,qH.2.2,qC.2.1,qC.2.2]
 have hst5:zW Tryz.prog 36 (.ptr h'.next 0) (.agg [Ld, .nilsl,Hd,Cd]) (h'.new h'.next (.row zGE))=some (h'.new h'.next (.row [Ld, .nilsl,Hd,Cd])):=zg zBE (by omega) rfl rfl (zZh qL.1 rfl qH.1 qC.1);simp only[go_sem,Nat.reduceEqDiff,↓reduceIte,f2,f3,f4,f8,f34,f35,f36,e1]
 refine qG ⟨0,fun _=>none⟩ [(0, .no,true),(1, .st,true),(2, .no,true),(3, .st,true),(4, .no,true),(7, .no,true),(8, .st,true),(9, .no,true),(10, .st,true),(11, .no,true),(14, .no,true),(15, .st,true),(16, .no,true),(17, .st,true),(18, .no,true),(5, .st,true),(6, .st,true),(12, .st,true),(13, .st,true),(19, .st,true),(20, .st,true),(21, .no,true),(22, .no,true),(23, .no,true)] (by kernel_rfl) (by kernel_rfl) (hle0 _) ?_
 simp only[go_sem,Nat.reduceEqDiff,↓reduceIte,f2,f3,f4,f8,zUF,List.contains_nil,hle1,zI,Nat.reduceAdd,Nat.zero_add,zC,List.getElem?_cons_zero,List.getElem?_cons_succ,hbp ha1 hb1,hbp ha3 hb3,hbp ha4 hb4];refine zFJ _ (con ha1 hb1 la1 lb1) ?_;refine zFJ _ (srt la1 lb1 eL) ?_;refine zFJ _ (con ha3 hb3 la2 lb2) ?_;refine zFJ _ (srt la2 lb2 eH) ?_;refine zFJ _ (con ha4 hb4 la3 lb3) ?_;refine zFJ _ (srt la3 lb3 eC) ?_;have sL:((zt (zV (a.ls++b.ls))).length:Int)=(zV (a.ls++b.ls)).length:=by rw[zJ]
 have hLen:(zV (a.ls++b.ls)).length≤2048:=by
  have:=zCF (a.ls++b.ls);rw[List.length_append] at this;omega
 simp only[go_sem,Nat.reduceEqDiff,↓reduceIte,f2,f3,f4,f8,zUF,List.contains_nil,hle1,hbn,hst5,zQ,zI,Nat.reduceAdd,Nat.zero_add,zC,List.getElem?_cons_zero,List.getElem?_cons_succ,zP hL.isSl Tryz.underlying31,sL];generalize hLL:zV (a.ls++b.ls)=L at *
 obtain⟨T,hT⟩:∃T:List (List UInt8),T=L.map fun s=>(wQ s m).getD []:=⟨_,rfl⟩;have hTl:T.length=L.length:=by rw[hT,List.length_map]
 refine yG (fun j fr h3=>fr 4= .ptr h.next 0∧fr 8= .map (h.next+1)∧fr 15= .ptr h'.next 0∧fr 97=Ld∧fr 98= .int .i64 L.length∧fr 99= .int .i64 (j:Int)∧Ext h h3∧h'.next<h3.next∧h3.at' h.next=some (.row zGE)∧h3.at' (h.next+1)=some (.map (kvD m))∧
  ∃td,h3.at' h'.next=some (.row [Ld,td,Hd,Cd])∧wI h3 1 (zt (T.take j)) td∧∀q,wm td q→h'.next<q) L.length ?_ ?_
 ·simp only[go_sem,Nat.reduceEqDiff,↓reduceIte,f2,f3,f4,f8,true_and];exact⟨rfl,hE.new (by omega) _,by rw[zK];omega,by rw[zM (by omega)];exact hrow,by rw[zM (by omega)];exact hmap, .nilsl,rfl, .inl ⟨rfl,rfl⟩,fun q hq=>hq.elim⟩
 rintro j fr2 h3 hj ⟨g4,g8,g15,g97,g98,g99,gE,gN,zQh,gmap,td,gtd,gos,gtk⟩;by_cases hjl:j<L.length
 ·have e2:decide ((j:Int)<L.length)=true:=decide_eq_true (by omega);have hlk:=zI8 (t:=107) gmap zKE zIy zCA L[j] false;have hvf:zCO false (.str []) ((wQ L[j] m).map .str)= .str ((wQ L[j] m).getD []):=by cases wQ L[j] m<;>rfl
  rw[hvf] at hlk;have hTj:T.take (j+1)=T.take j++ [(wQ L[j] m).getD []]:=by
   rw[List.take_succ_eq_append_getElem (by omega)];simp[hT]
  have hb1':∀H:Heap,zS Tryz.prog false H.next 31 1 [(0, .str ((wQ L[j] m).getD []))] H=some (.sl 1 [[.str ((wQ L[j] m).getD [])]] .full,H):=fun H=>yR (x:= .str ((wQ L[j] m).getD [])) zd zCA yu rfl rfl (by omega) (by omega) rfl rfl;simp only[go_sem,Nat.reduceEqDiff,↓reduceIte,zUF,List.contains_nil,g4,g8,g15,g97,g98,g99,e2,gtd,zE hL.isSl zd yu (yy hjl),zI,Nat.reduceAdd,Nat.zero_add,zC,List.getElem?_cons_zero,List.getElem?_cons_succ,hlk,hb1'];have htl:(zt (T.take j)).length=j:=by rw[zJ,List.length_take];omega
  refine wI.app2 (h:=h3) gos zd zBq yu (by omega) (by simp) (by simp) (by rw[htl,wO];unfold lim;simp;omega) (by rw[htl];unfold lim;simp;omega) ?_;intro d' h6 b1 b2 b3 b4 b5 b6;have g:h6.at' h'.next=some (.row [Ld,td,Hd,Cd]):=by rw[b3 _ (by omega) fun e=>by have:=gtk _ e;omega];exact gtd
  have k0:h6.at' h.next=some (.row zGE):=by rw[b3 _ (by omega) fun e=>by have:=gtk _ e;omega];exact zQh
  have k1':h6.at' (h.next+1)=some (.map (kvD m)):=by rw[b3 _ (by omega) fun e=>by have:=gtk _ e;omega];exact gmap
  have gE6:Ext h h6:=⟨by have:=gE.1;omega,fun i hi=>by rw[b3 i (by have:=gE.1;omega) fun e=>by have:=gtk _ e;omega];exact gE.2 i hi⟩;have hst:zW Tryz.prog 31 (.ptr h'.next 1) d' h6=some (h6.set h'.next (.row [Ld,d',Hd,Cd])):=by rw[zh g zCQ (by simp) b5 b6];rfl
  simp only[go_sem,Nat.reduceEqDiff,↓reduceIte,g4,g8,g15,g97,g98,g99,zI,Nat.reduceAdd,Nat.zero_add,hst];refine⟨hjl,by rw[zf (by unfold lim;omega)],gE6.set (by omega) _,by omega,by rw[zH (by omega)];exact k0,by rw[zH (by omega)];exact k1',d',rfl,?_,fun q hq=>by have:=b4 q hq;omega⟩;rw[hTj];have hss:zt (T.take j++ [(wQ L[j] m).getD []])=zt (T.take j)++ [[.str ((wQ L[j] m).getD [])]]:=by simp[zt]
  rw[hss];exact b1.loc (Nat.le_refl _) fun i hi=>zH (by have:=b4 i hi;omega)
 have hje:j=L.length:=by omega
 subst hje;have e2:decide ((L.length:Int)<L.length)=false:=decide_eq_false (by omega);rw[List.take_of_length_le (by omega)] at gos;obtain⟨h4,hclr,v1,v3,v4,v5⟩:∃h4,zBj Tryz.prog 107 (.map (h.next+1)) h3=some h4∧Ext h h4∧h4.at' h.next=some (.row zGE)∧h4.at' h'.next=some (.row [Ld,td,Hd,Cd])∧wI h4 1 (zt T) td:=
  ⟨_,zP4 gmap Tryz.underlying107,gE.set (by omega) _,by rw[zH (by omega)];exact zQh,by rw[zH (by omega)];exact gtd,gos.loc (Nat.le_refl _) fun i hi=>zH (by have:=gtk i hi;omega)⟩
 have hmn:qY a b m= ⟨L,T,zV (a.hs++b.hs),zV (a.cs++b.cs)⟩:=by unfold qY;rw[hLL,hT]
 have qT:=zDX v5.isSl;simp only[go_sem,Nat.reduceEqDiff,↓reduceIte,zUF,List.contains_nil,g4,g8,g15,g97,g98,g99,e2,hclr,v4,hvp];refine(zHa (n:=qY a b m) ⟨Ld,td,Hd,Cd,rfl,by rw[hmn];exact hL.isSl,by rw[hmn];exact v5.isSl,by rw[hmn];exact hH.isSl,by rw[hmn];exact hC.isSl⟩ hsm h4).mono ?_;rintro r h4 ⟨rfl,rfl⟩;cases h5:(zw (qY a b m) !=0) with
 |true=>
  have hst4:zW Tryz.prog 36 (.ptr h.next 0) (.agg zGE) h4=some (h4.set h.next (.row zGE)):=qQ v3 zBE rfl (by simp) rfl;simp only[go_sem,Nat.reduceEqDiff,↓reduceIte,g4,g8,g15,h5,hb0,hst4,hvp];exact fin0 (v1.set (Nat.le_refl _) _) (by rw[hmg,if_pos (by simpa using h5)])
 |false=>
  have hst4:zW Tryz.prog 36 (.ptr h.next 0) (.agg [Ld,td,Hd,Cd]) h4=some (h4.set h.next (.row [Ld,td,Hd,Cd])):=qQ v3 zBE rfl (by simp) (zZh qL.1 qT.1 qH.1 qC.1);simp only[go_sem,Nat.reduceEqDiff,↓reduceIte,g4,g8,g15,h5,v4,hst4,hvp];have:=zP7 (n:=qY a b m) (a:=Ld) (b:=td) (c:=Hd) (e:=Cd) (h:=h4) (by rw[hmn];exact hL) (by rw[hmn];exact v5) (by rw[hmn];exact hH) (by rw[hmn];exact hC);rw[hmg,if_neg (by simpa using h5)];exact⟨v1.set (Nat.le_refl _) _,zu (Nat.zero_le _) _ this.1,this.2⟩
end Go.V
