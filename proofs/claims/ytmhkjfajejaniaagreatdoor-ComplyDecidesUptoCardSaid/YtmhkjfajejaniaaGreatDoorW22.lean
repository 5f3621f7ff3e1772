/- Rules of the machine of abstract values, part 4. No condition. -/
import Derived.Test.YtmhkjfajejaniaaGreatDoorW21
import Derived.Shelf.Strings.Builder1
import Derived.Test.YtmhkjfajejaniaaGreatDoorW17
import Derived.Test.YtmhkjfajejaniaaGreatDoorW18
set_option linter.all false
namespace Go.V
def wT (l:List Int):List (List D):=l.map fun n=>[.int .i64 n]
theorem yo (l:List Int):(wT l).length=l.length:=List.length_map ..
theorem zQE {l:List Int} {i:Nat} (h:i<l.length):(wT l)[i]? =some [.int .i64 l[i]]:=by simp[wT,h]
section
variable {P:Program} {mx:Nat} {found:D} {Y:List (List Int)→(Nat→Prop)→Heap→Prop} {id:Nat} {L:LRec} {ks:List (List Int)} {els:Nat→List (List Int)} {k:Nat} {S:Nat→Prop} {h:Heap}
end
theorem zZ6 {H:Heap} (o o2:Obj):((H.new H.next o).new (H.new H.next o).next o2).at' H.next=some o:=by
 rw[zG (by rw[zD];omega),zJ]
theorem zOM {P:Program} {t:TypeId} {H:Heap} {c x:D} {o2:Obj} (hs:szT P t=1) (hc:x.cells= [x]) (hf:x.flat=true):
  zU P t (.ptr H.next 0) x ((H.new H.next (.row [c])).new (H.new H.next (.row [c])).next o2)=some ((H.new H.next (.row [x])).new (H.new H.next (.row [x])).next o2):=by
 rw[za (zZ6 _ _) hs (by simp) hc hf];congr 1;simp only[Heap.set,Heap.new,Heap.mk.injEq,true_and]
 funext j
 by_cases hj:j=H.next
 ·subst hj;simp
 ·simp[hj]
theorem zMZ {a b c b':List D} (hl:b'.length=b.length):yW (a++b++c) b' a.length=a++b'++c:=by
 simp[yW,hl]
theorem zH4 {P:Program} {nid:Nat} {t e:TypeId} {z x y:D} {sz:Nat} {h:Heap} (he:qE P t=some e) (hz:qQ P e=some z) (hs:szT P e=sz) (hzt:z.notTuple=true) (hzl:z.cells.length=sz) (h0:0<sz) (hlim:sz≤1048576)
  (hxt:x.notTuple=true) (hxl:x.cells.length=sz) (hyt:y.notTuple=true) (hyl:y.cells.length=sz):zM P false nid t 2 [(0,x),(1,y)] h=some (.sl sz [x.cells,y.cells] .full,h):=by
 simp only[zM,he,hz,hs];have hrep:zA6 2 z.cells=z.cells++z.cells:=by simp[zA6]
 have hp1:yW (z.cells++z.cells) x.cells (0*sz)=x.cells++z.cells:=by
  have:=zMZ (a:=[]) (b:=z.cells) (c:=z.cells) (b':=x.cells) (by rw[hxl,hzl]);simpa using this
 have hp2:yW (x.cells++z.cells) y.cells (1*sz)=x.cells++y.cells:=by
  have:=zMZ (a:=x.cells) (b:=z.cells) (c:=[]) (b':=y.cells) (by rw[hyl,hzl]);rw[Nat.one_mul,←hxl];simpa using this
 rw[if_pos (by simp[hzt,hzl,h0];omega)];simp only[qZ,hrep];rw[if_pos (by simp[hxt,hxl,hzl])];simp only[qZ,hp1];rw[if_pos (by simp[hyt,hyl,hxl,hzl])];simp only[qZ,hp2];have hc:yC sz 2 (x.cells++y.cells)= [x.cells,y.cells]:=by
  simp only[yC];rw[List.take_append_of_le_length (by omega),List.take_of_length_le (by omega),List.drop_append_of_le_length (by omega),List.drop_eq_nil_of_le (by omega),List.nil_append,List.take_of_length_le (by omega)]
 simp[hc]
open Go.RowKit (Below)
open Go.Shelf Go.Proofs
open Go.Proofs
section
variable {P:Program} {m:Bool} {nid:Nat} {h:Heap} {fr:Frm} {k:D→Heap→Prop}
def zgH (P:Program) (t:TypeId) (d:D):Option D:=
 match d with
 | .nilsl=>match P.underlying t with
  |some (.slice _)=>some (.int .i64 0)
  |_=>none
 |_=>none
@[go_sem ↓] theorem zlL (t:TypeId) (x:Operand):qv P m nid (.call ⟨.builtin .cap,#[x],#[t]⟩) (zx fr) h k=onS (zgH P t (zx fr x)) (k · h):=by
 refine zAs rfl ?_;simp only[vop,zAy,zgH,List.map_cons,List.map_nil];cases zx fr x<;>try rfl
 simp only[];cases P.underlying t with
 |none=>rfl
 |some y=>cases y<;>rfl
@[go_sem ↓] theorem zic (t:TypeId) (x:Operand):qv P m nid (.call ⟨.builtin .clear,#[x],#[t]⟩) (zx fr) h k=onH (zDu P t (zx fr x) h) (k qz ·):=zSg rfl rfl
theorem zWW {t e:TypeId} (hu:P.underlying t=some (.slice e)):zgH P t .nilsl=some (.int .i64 0):=by simp[zgH,hu]
end
abbrev KV:=List (List UInt8×List UInt8)
def kvD (m:KV):List (D×D):=m.map fun p=>(.str p.1, .str p.2)
def ww (k:List UInt8):KV→Option (List UInt8)
 | []=>none
 |(k',v)::m=>if k==k' then some v else ww k m
def zEI (k v:List UInt8):KV→KV
 | []=>[(k,v)]
 |(k',v')::m=>if k==k' then(k,v)::m else(k',v')::zEI k v m
theorem zGz (p:List UInt8×List UInt8) (m:KV):kvD (p::m)=(.str p.1, .str p.2)::kvD m:=rfl
theorem zC7 (k k':List UInt8):eqK [.s] (D.str k).cells (D.str k').cells=some (k==k'):=by
 show(eqK [] [] []).map (k==k'&& ·)=_;simp[eqK]
theorem zKx (k:List UInt8):∀m:KV,zBm [.s] (.str k) (kvD m)=some ((ww k m).map .str)
 | []=>rfl
 |(k',v)::m=>by
  have ih:=zKx k m;rw[zGz,zBm,zC7];cases h:(k==k') with
  |true=>simp[ww,h]
  |false=>simp only[ww,h,ih];rfl
theorem zT7 (k v:List UInt8):∀m:KV,zOz [.s] (.str k) (.str v) (kvD m)=some (kvD (zEI k v m))
 | []=>rfl
 |(k',v')::m=>by
  have ih:=zT7 k v m;rw[zGz,zOz,zC7];cases h:(k==k') with
  |true=>simp[zEI,h,zGz]
  |false=>simp[zEI,h,zGz,ih]
theorem zMa (m:KV):(kvD m).all (fun x=>zP false x.1)=true:=by
 rw[List.all_eq_true];intro x hx;obtain⟨p,_,rfl⟩:=List.mem_map.1 hx;rfl
theorem zMb (k k' v:List UInt8):∀m:KV,ww k (zEI k' v m)=if k==k' then some v else ww k m
 | []=>by simp[zEI,ww]
 |(k2,v2)::m=>by
  have ih:=zMb k k' v m;simp only[zEI];by_cases h:k'=k2
  ·subst h;simp only[beq_self_eq_true,if_true,ww];by_cases g:k=k'
   ·subst g;simp
   ·simp[g]
  ·have hb:(k'==k2)=false:=by simp[h]
   simp only[hb,Bool.false_eq_true,if_false,ww,ih];by_cases g:k=k2
   ·subst g
    have:(k==k')=false:=by simp;exact fun e=>h e.symm
    simp[this]
   ·simp[g]
section
variable {P:Program} {t kt e:TypeId} {id:Nat} {h:Heap} {m:KV}
theorem zRE (hi:h.at' id=some (.map (kvD m))) (hm:zO0 P t=some (kt,e)) (hk:zO1 P kt=some (false,[.s])) (hz:qQ P e=some (.str [])) (k:List UInt8) (ok:Bool):
  yS P t (.map id) (.str k) ok h=some (zDt ok (.str []) ((ww k m).map .str)):=by
 simp only[yS,hm,hk,hz,zIp,hi,zCs,zMa,zC7,zKx,show zP false (.str k)=true from rfl,Option.isSome_some,Bool.and_self,if_true]
theorem zKy (hi:h.at' id=some (.map (kvD m))) (hm:zO0 P t=some (kt,e)) (hk:zO1 P kt=some (false,[.s])) (k v:List UInt8):
  yM P t (.map id) (.str k) (.str v) h=some (h.set id (.map (kvD (zEI k v m)))):=by
 simp only[yM,hm,hk,hi,zMa,zC7,zKx,zT7,show zP false (.str k)=true from rfl,Option.isSome_some,Bool.and_self,if_true]
end
def zgI (P:Program) (h0:Heap) (f:D) (args:List D) (k:D→Prop):Prop:=∃d,(∀h',HLe h0 h'→zGV P f args h' fun d' h''=>d'=d∧h''=h')∧k d
@[congr] theorem zbw {P:Program} {h0:Heap} {f f':D} {args args':List D} {k:D→Prop} (hf:f=f') (ha:args=args'):zgI P h0 f args k=zgI P h0 f' args' k:=by rw[hf,ha]
@[go_sem ↓] theorem zZ7 {P:Program} {h0:Heap} {fr:Frm} (f:Operand) (args:List Operand) (ats:Array TypeId) (k:D→Prop):zHz P h0 (.call ⟨.value f,args.toArray,ats⟩) (zx fr) k=zgI P h0 (zx fr f) (args.map (zx fr)) k:=(rfl)
theorem zZ8 {P:Program} {h0:Heap} {g:FuncId} {args:List D} {k:D→Prop} (d:D) (hv:∀h',zA P g args h' fun r h''=>h''=h'∧r=d) (hk:k d):zgI P h0 (.fn (.func g) [] []) args k:=
 ⟨d,fun h' _=>by
  rw[zYv,List.nil_append,List.append_nil];exact(hv h').mono fun _ _ e=>⟨e.2,e.1⟩,hk⟩
structure HidS (k:D→Prop) where
def zkP (o:Option D) (k:D→Prop) (_:HidS k):Prop:=onS o k
@[go_sem ↓] theorem zgJ (o:Option D) (k:D→Prop):onS o k=zkP o k ⟨⟩:=(rfl)
@[go_sem ↓] theorem zeo (d:D) (k:D→Prop) (w:HidS k):zkP (some d) k w=k d:=(rfl)
structure HidR (k:D→Heap→Prop) where
def zZ9 (o:VR) (k:D→Heap→Prop) (_:HidR k):Prop:=onR o k
@[go_sem ↓] theorem zgK (o:VR) (k:D→Heap→Prop):onR o k=zZ9 o k ⟨⟩:=(rfl)
@[go_sem ↓] theorem zep (d:D) (h:Heap) (k:D→Heap→Prop) (w:HidR k):zZ9 (some (d,h)) k w=k d h:=(rfl)
structure HidH (k:Heap→Prop) where
def zkQ (o:Option Heap) (k:Heap→Prop) (_:HidH k):Prop:=onH o k
@[go_sem ↓] theorem zgL (o:Option Heap) (k:Heap→Prop):onH o k=zkQ o k ⟨⟩:=(rfl)
@[go_sem ↓] theorem zeq (h:Heap) (k:Heap→Prop) (w:HidH k):zkQ (some h) k w=k h:=(rfl)
structure HidP (x y:Prop) where
def zer (g:Bool) (x y:Prop) (_:HidP x y):Prop:=gif g x y
@[go_sem ↓] theorem zgM (g:Bool) (x y:Prop):gif g x y=zer g x y ⟨⟩:=(rfl)
@[go_sem ↓] theorem zes (x y:Prop) (w:HidP x y):zer true x y w=x:=(rfl)
@[go_sem ↓] theorem zbx (x y:Prop) (w:HidP x y):zer false x y w=y:=(rfl)
def zWX (d:D) (x y:Prop) (_:HidP x y):Prop:=onB d x y
@[go_sem ↓] theorem zgN (d:D) (x y:Prop):onB d x y=zWX d x y ⟨⟩:=(rfl)
@[go_sem ↓] theorem zet (x y:Prop) (w:HidP x y):zWX (.bool true) x y w=x:=(rfl)
@[go_sem ↓] theorem zby (x y:Prop) (w:HidP x y):zWX (.bool false) x y w=y:=(rfl)
theorem zT8 {b:Bool} {x y:Prop} {w:HidP x y} (h1:b=true→x) (h2:b=false→y):zWX (.bool b) x y w:=by
 cases b
 ·exact h2 rfl
 ·exact h1 rfl
@[go_sem] theorem zid (b:Bool):vun .not (.bool b)=some (.bool (!b)):=(rfl)
section
variable {P:Program} {g:Cfg} {n:Nat} {ro:Option Nat} {c:Code} {Q:Exit→Frm→Heap→Prop} {fr:Frm} {h:Heap}
theorem zF (J:Nat→Frm→Heap→Prop) (len:Nat) (hlen:len≤1073741824) (hJ0:J 0 fr h)
  (step:∀i fr h,i<len→decide ((i:Int)<(len:Int))=true→IntKind.i64.wrap ((i:Int)+1)=((i+1:Nat):Int)→J i fr h→vwp P g n ro c (zC2 (J (i+1)) Q) fr h)
  (last:∀fr h,decide ((len:Int)<(len:Int))=false→J len fr h→vwp P g n ro c (zC2 (fun _ _=>False) Q) fr h):vwp P g n ro (.loop c) Q fr h:=by
 refine z7 J len hJ0 fun i fr h hi hJ=> ?_;by_cases hlt:i<len
 ·refine qw c ?_ fr h (step i fr h hlt (decide_eq_true (by omega)) (ze (by unfold lim;omega)) hJ);intro e fr' h' hq;cases e with
  |normal=>exact⟨hlt,hq⟩
  |_=>exact hq
 ·have he:i=len:=by omega
  subst he;refine qw c ?_ fr h (last fr h (decide_eq_false (by omega)) hJ);intro e fr' h' hq;cases e with
  |normal=>exact hq.elim
  |_=>exact hq
end
section
variable {P:Program} {t e:TypeId} {s:List UInt8} {h:Heap}
theorem zIy (ha:zI9 P t=none) (hu:P.underlying t=some .string) {k k':IntKind} {m n:Nat} (hm:m≤n) (hn:n≤s.length):yX P t (.str s) (some (.int k (m:Int))) (some (.int k' (n:Int))) none h=some (.str ((s.take n).drop m)):=by
 simp[yX,ha,zCr,hu,qt,zJA,zLY,hn,hm]
@[go_sem ↓] theorem zgO (a b:List UInt8):zVA .geq a b=some (.bool (!zIn a b)):=(rfl)
@[go_sem ↓] theorem zgP (a b:List UInt8):zVA .gtr a b=some (.bool !(zIn a b||a==b)):=(rfl)
end
def Own (h0 h:Heap) (sz:Nat) (xs:List (List D)) (d:D):Prop:=Ext h0 h∧wN h sz xs d∧∀i,wi d i→h0.next≤i
section
variable {h0 h h':Heap} {sz:Nat} {xs:List (List D)} {d:D}
theorem Own.start (he:Ext h0 h) (sz:Nat):Own h0 h sz [] .nilsl:=⟨he, .inl ⟨rfl,rfl⟩,fun _ hi=>hi.elim⟩
theorem Own.isSl (ho:Own h0 h sz xs d):zX sz xs d:=ho.2.1.isSl
theorem Own.fin (ho:Own h0 h sz xs d) (hx:∀x∈xs,qC x):Ext h0 h∧below h0.next (yI d)∧Fin sz xs (yI d):=
 ⟨ho.1,zy (Nat.zero_le _) _ (ho.2.1.fin hx).1,(ho.2.1.fin hx).2⟩
theorem Own.ext (ho:Own h0 h sz xs d) (he:Ext h h'):Own h0 h' sz xs d:=
 ⟨ho.1.trans he,ho.2.1.keep he.2 he.1,ho.2.2⟩
theorem Own.flat (ho:Own h0 h sz xs d):d.flat=true∧d.cells= [d]∧d.notTuple=true:=by
 rcases ho.2.1 with⟨rfl,_⟩ | ⟨t,rfl,_⟩ <;>exact⟨rfl,rfl,rfl⟩
theorem Own.app {P:Program} {ys:List (List D)} {tk:Tk} {t e:TypeId} {K:D→Heap→Prop} (ho:Own h0 h sz xs d) (he:qE P t=some e) (hz:zHE P e=true) (hs:szT P e=sz) (hp:0<sz) (hys:∀y∈ys,y.length=sz) (hy0:ys≠[])
  (hb:(xs.length+ys.length)*yR P e≤lim) (hl:xs.length+ys.length≤lim) (hK:∀d' h',Own h0 h' sz (xs++ys) d'→K d' h'):onR (z6 P false h.next t d (.sl sz ys tk) h) K:=
 ho.2.1.app2 he hz hs hp hys hy0 hb hl fun d' h' o n keep tk c f=>hK d' h' ⟨⟨Nat.le_trans ho.1.1 n,fun i hi=>by rw[keep i (Nat.lt_of_lt_of_le hi ho.1.1) (fun q=>by have:=ho.2.2 i q;omega)];exact ho.1.2 i hi⟩,o,fun i hi=>Nat.le_trans ho.1.1 (tk i hi)⟩
theorem Own.appH {P:Program} {ys:List (List D)} {tk:Tk} {t e:TypeId} {K:D→Heap→Prop} {w:HidR K} (ho:Own h0 h sz xs d) (he:qE P t=some e) (hz:zHE P e=true) (hs:szT P e=sz) (hp:0<sz) (hys:∀y∈ys,y.length=sz) (hy0:ys≠[])
  (hb:(xs.length+ys.length)*yR P e≤lim) (hl:xs.length+ys.length≤lim) (hK:∀d' h',Own h0 h' sz (xs++ys) d'→K d' h'):zZ9 (z6 P false h.next t d (.sl sz ys tk) h) K w:=ho.app he hz hs hp hys hy0 hb hl hK
end
theorem zie (b c:UInt8):((b.toNat:Int)==(c.toNat:Int))=(b==c):=by
 by_cases e:b=c
 ·simp[e]
 ·rw[beq_eq_false_iff_ne.2 e,beq_eq_false_iff_ne.2 (fun h=>e (UInt8.toNat_inj.1 (by omega)))]
theorem zaA (a b:Nat):decide ((a:Int)>(b:Int))=decide (a>b):=by
 by_cases e:a>b
 ·rw[decide_eq_true e,decide_eq_true (by omega)]
 ·rw[decide_eq_false e,decide_eq_false (by omega)]
theorem zH5 {α:Type} {p:α→Bool} {l:List α} {i:Nat} (hi:i<l.length) (hp:p l[i]=true):l.any p=true:=List.any_eq_true.2 ⟨_,List.getElem_mem hi,hp⟩
theorem zD2 {α:Type} {p:α→Bool} {l:List α} (h:∀j (hj:j<l.length),j<l.length→p l[j]=false):l.any p=false:=by
 rw[List.any_eq_false];intro x hx;obtain⟨j,hj,rfl⟩:=List.mem_iff_getElem.1 hx;rw[h j hj hj];exact Bool.false_ne_true
theorem yk {α:Type} {p:α→Bool} {l:List α} {i:Nat} (hi:i<l.length) (hj:∀j (hj:j<l.length),j<i→p l[j]=false) (hp:p l[i]=false):∀j (hj:j<l.length),j<i+1→p l[j]=false:=fun j hjl hji=>by
 rcases Nat.lt_succ_iff_lt_or_eq.1 hji with hji|rfl
 ·exact hj j hjl hji
 ·exact hp
set_option maxRecDepth 100000
@[go_sem] theorem zif (s:List UInt8) (h:Heap):zCF Tryz.prog 9 (.str s) h=some (.int .i64 s.length):=qx Tryz.underlying9
theorem zYU {s:List UInt8} {i:Nat} (hi:i<s.length):zBZ Tryz.prog 9 (.str s) (.int .i64 (i:Int))=some (.int .u8 (s[i].toNat:Int)):=zAV Tryz.underlying9 (List.getElem?_eq_getElem hi)
theorem zaB {s:List UInt8} {m n:Nat} (hm:m≤n) (hn:n≤s.length) (h:Heap):yX Tryz.prog 9 (.str s) (some (.int .i64 (m:Int))) (some (.int .i64 (n:Int))) none h=some (.str ((s.take n).drop m)):=zIy zPN Tryz.underlying9 hm hn
theorem zeu {s:List UInt8} {n:Nat} (hn:n≤s.length) (h:Heap):yX Tryz.prog 9 (.str s) (some (.int .i64 (n:Int))) none none h=some (.str (s.drop n)):=zE6 zPN Tryz.underlying9 hn
theorem yz {l:List (List UInt8)} {d:D} (hd:zX 1 (yP l) d) (h:Heap):zCF Tryz.prog 40 d h=some (.int .i64 l.length):=by rw[yY hd Tryz.underlying40,zq]
theorem zAW {l:List (List UInt8)} {d:D} (hd:zX 1 (yP l) d) {i:Nat} (hi:i<l.length):zS Tryz.prog 40 d (.int .i64 (i:Int))=some (.iptr [.str l[i]] 0):=zY hd yj zAh (zGx hi)
theorem zEJ (s:List UInt8) (nid:Nat) (h:Heap):zM Tryz.prog false nid 40 1 [(0, .str s)] h=some (.sl 1 [[.str s]] .full,h):=yg yj zFg zAh rfl rfl (by omega) (by omega) rfl rfl
theorem zQF (l m:List (List UInt8)):yP (l++m)=yP l++yP m:=by simp[yP]
theorem Own.str {h0 h:Heap} {l:List (List UInt8)} {d:D} {x:List UInt8} {K:D→Heap→Prop} {w:HidR K} (ho:Own h0 h 1 (yP l) d) (hl:l.length≤16777216) (hK:∀d' h',Own h0 h' 1 (yP (l++ [x])) d'→K d' h'):zZ9 (z6 Tryz.prog false h.next 40 d (.sl 1 [[.str x]] .full) h) K w:=
 ho.appH yj zHg zAh (by omega) (by simp) (by simp) (by simp only[zq,zBe,List.length_cons,List.length_nil];unfold lim;omega) (by simp only[zq,List.length_cons,List.length_nil];unfold lim;omega) fun d' h' o=>hK d' h' (by rw[zQF];exact o)
end Go.V
