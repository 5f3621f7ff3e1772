/- Rules of the machine of abstract values, part 4. No condition. -/
import Derived.Test.YtmhkjfajejaniaaGreatDoorW21
import Derived.Shelf.Strings.Builder1
import Derived.Test.YtmhkjfajejaniaaGreatDoorW17
import Derived.Test.YtmhkjfajejaniaaGreatDoorW18
set_option linter.all false
namespace Go.V
def wa (l:List Int):List (List D):=l.map fun n=>[.int .i64 n]
theorem yv (l:List Int):(wa l).length=l.length:=List.length_map ..
theorem zQI {l:List Int} {i:Nat} (h:i<l.length):(wa l)[i]? =some [.int .i64 l[i]]:=by simp[wa,h]
section
variable {P:Program} {mx:Nat} {found:D} {Y:List (List Int)→(Nat→Prop)→Heap→Prop} {id:Nat} {L:LRec} {ks:List (List Int)} {els:Nat→List (List Int)} {k:Nat} {S:Nat→Prop} {h:Heap}
end
theorem zaB {H:Heap} (o o2:Obj):((H.new H.next o).new (H.new H.next o).next o2).at' H.next=some o:=by
 rw[zD (by rw[zF];omega),zJ]
theorem zOS {P:Program} {t:TypeId} {H:Heap} {c x:D} {o2:Obj} (hs:szT P t=1) (hc:x.cells= [x]) (hf:x.flat=true):
  zW P t (.ptr H.next 0) x ((H.new H.next (.row [c])).new (H.new H.next (.row [c])).next o2)=some ((H.new H.next (.row [x])).new (H.new H.next (.row [x])).next o2):=by
 rw[zT (zaB _ _) hs (by simp) hc hf];congr 1;simp only[Heap.set,Heap.new,Heap.mk.injEq,true_and]
 funext j
 by_cases hj:j=H.next
 ·subst hj;simp
 ·simp[hj]
theorem zMi {a b c b':List D} (hl:b'.length=b.length):yj (a++b++c) b' a.length=a++b'++c:=by
 simp[yj,hl]
theorem zIG {P:Program} {nid:Nat} {t e:TypeId} {z x y:D} {sz:Nat} {h:Heap} (he:qL P t=some e) (hz:qV P e=some z) (hs:szT P e=sz) (hzt:z.notTuple=true) (hzl:z.cells.length=sz) (h0:0<sz) (hlim:sz≤1048576)
  (hxt:x.notTuple=true) (hxl:x.cells.length=sz) (hyt:y.notTuple=true) (hyl:y.cells.length=sz):zM P false nid t 2 [(0,x),(1,y)] h=some (.sl sz [x.cells,y.cells] .full,h):=by
 simp only[zM,he,hz,hs];have hrep:zA7 2 z.cells=z.cells++z.cells:=by simp[zA7]
 have hp1:yj (z.cells++z.cells) x.cells (0*sz)=x.cells++z.cells:=by
  have:=zMi (a:=[]) (b:=z.cells) (c:=z.cells) (b':=x.cells) (by rw[hxl,hzl]);simpa using this
 have hp2:yj (x.cells++z.cells) y.cells (1*sz)=x.cells++y.cells:=by
  have:=zMi (a:=x.cells) (b:=z.cells) (c:=[]) (b':=y.cells) (by rw[hyl,hzl]);rw[Nat.one_mul,←hxl];simpa using this
 rw[if_pos (by simp[hzt,hzl,h0];omega)];simp only[qj,hrep];rw[if_pos (by simp[hxt,hxl,hzl])];simp only[qj,hp1];rw[if_pos (by simp[hyt,hyl,hxl,hzl])];simp only[qj,hp2];have hc:yH sz 2 (x.cells++y.cells)= [x.cells,y.cells]:=by
  simp only[yH];rw[List.take_append_of_le_length (by omega),List.take_of_length_le (by omega),List.drop_append_of_le_length (by omega),List.drop_eq_nil_of_le (by omega),List.nil_append,List.take_of_length_le (by omega)]
 simp[hc]
open Go.RowKit (Below)
open Go.Shelf Go.Proofs
open Go.Proofs
section
variable {P:Program} {m:Bool} {nid:Nat} {h:Heap} {fr:Frm} {k:D→Heap→Prop}
def zgS (P:Program) (t:TypeId) (d:D):Option D:=
 match d with
 | .nilsl=>match P.underlying t with
  |some (.slice _)=>some (.int .i64 0)
  |_=>none
 |_=>none
@[go_sem ↓] theorem zlU (t:TypeId) (x:Operand):wD P m nid (.call ⟨.builtin .cap,#[x],#[t]⟩) (yB fr) h k=onS (zgS P t (yB fr x)) (k · h):=by
 refine zBA rfl ?_;simp only[vop,zBG,zgS,List.map_cons,List.map_nil];cases yB fr x<;>try rfl
 simp only[];cases P.underlying t with
 |none=>rfl
 |some y=>cases y<;>rfl
@[go_sem ↓] theorem zim (t:TypeId) (x:Operand):wD P m nid (.call ⟨.builtin .clear,#[x],#[t]⟩) (yB fr) h k=onH (zD7 P t (yB fr x) h) (k wH ·):=zSh rfl rfl
theorem zWY {t e:TypeId} (hu:P.underlying t=some (.slice e)):zgS P t .nilsl=some (.int .i64 0):=by simp[zgS,hu]
end
abbrev KV:=List (List UInt8×List UInt8)
def kvD (m:KV):List (D×D):=m.map fun p=>(.str p.1, .str p.2)
def zAM (k:List UInt8):KV→Option (List UInt8)
 | []=>none
 |(k',v)::m=>if k==k' then some v else zAM k m
def zEW (k v:List UInt8):KV→KV
 | []=>[(k,v)]
 |(k',v')::m=>if k==k' then(k,v)::m else(k',v')::zEW k v m
theorem zHE (p:List UInt8×List UInt8) (m:KV):kvD (p::m)=(.str p.1, .str p.2)::kvD m:=rfl
theorem zDL (k k':List UInt8):eqK [.s] (D.str k).cells (D.str k').cells=some (k==k'):=by
 show(eqK [] [] []).map (k==k'&& ·)=_;simp[eqK]
theorem zK8 (k:List UInt8):∀m:KV,zB3 [.s] (.str k) (kvD m)=some ((zAM k m).map .str)
 | []=>rfl
 |(k',v)::m=>by
  have ih:=zK8 k m;rw[zHE,zB3,zDL];cases h:(k==k') with
  |true=>simp[zAM,h]
  |false=>simp only[zAM,h,ih];rfl
theorem zT4 (k v:List UInt8):∀m:KV,zO4 [.s] (.str k) (.str v) (kvD m)=some (kvD (zEW k v m))
 | []=>rfl
 |(k',v')::m=>by
  have ih:=zT4 k v m;rw[zHE,zO4,zDL];cases h:(k==k') with
  |true=>simp[zEW,h,zHE]
  |false=>simp[zEW,h,zHE,ih]
theorem zMj (m:KV):(kvD m).all (fun x=>zP false x.1)=true:=by
 rw[List.all_eq_true];intro x hx;obtain⟨p,_,rfl⟩:=List.mem_map.1 hx;rfl
theorem zMk (k k' v:List UInt8):∀m:KV,zAM k (zEW k' v m)=if k==k' then some v else zAM k m
 | []=>by simp[zEW,zAM]
 |(k2,v2)::m=>by
  have ih:=zMk k k' v m;simp only[zEW];by_cases h:k'=k2
  ·subst h;simp only[beq_self_eq_true,if_true,zAM];by_cases g:k=k'
   ·subst g;simp
   ·simp[g]
  ·have hb:(k'==k2)=false:=by simp[h]
   simp only[hb,Bool.false_eq_true,if_false,zAM,ih];by_cases g:k=k2
   ·subst g
    have:(k==k')=false:=by simp;exact fun e=>h e.symm
    simp[this]
   ·simp[g]
section
variable {P:Program} {t kt e:TypeId} {id:Nat} {h:Heap} {m:KV}
theorem zRH (hi:h.at' id=some (.map (kvD m))) (hm:zO5 P t=some (kt,e)) (hk:zO6 P kt=some (false,[.s])) (hz:qV P e=some (.str [])) (k:List UInt8) (ok:Bool):
  yY P t (.map id) (.str k) ok h=some (zD6 ok (.str []) ((zAM k m).map .str)):=by
 simp only[yY,hm,hk,hz,zIv,hi,zC7,zMj,zDL,zK8,show zP false (.str k)=true from rfl,Option.isSome_some,Bool.and_self,if_true]
theorem zK9 (hi:h.at' id=some (.map (kvD m))) (hm:zO5 P t=some (kt,e)) (hk:zO6 P kt=some (false,[.s])) (k v:List UInt8):
  yT P t (.map id) (.str k) (.str v) h=some (h.set id (.map (kvD (zEW k v m)))):=by
 simp only[yT,hm,hk,hi,zMj,zDL,zK8,zT4,show zP false (.str k)=true from rfl,Option.isSome_some,Bool.and_self,if_true]
end
def zgT (P:Program) (h0:Heap) (f:D) (args:List D) (k:D→Prop):Prop:=∃d,(∀h',HLe h0 h'→zGk P f args h' fun d' h''=>d'=d∧h''=h')∧k d
@[congr] theorem zb4 {P:Program} {h0:Heap} {f f':D} {args args':List D} {k:D→Prop} (hf:f=f') (ha:args=args'):zgT P h0 f args k=zgT P h0 f' args' k:=by rw[hf,ha]
@[go_sem ↓] theorem zaC {P:Program} {h0:Heap} {fr:Frm} (f:Operand) (args:List Operand) (ats:Array TypeId) (k:D→Prop):zIB P h0 (.call ⟨.value f,args.toArray,ats⟩) (yB fr) k=zgT P h0 (yB fr f) (args.map (yB fr)) k:=(rfl)
theorem zaD {P:Program} {h0:Heap} {g:FuncId} {args:List D} {k:D→Prop} (d:D) (hv:∀h',zA P g args h' fun r h''=>h''=h'∧r=d) (hk:k d):zgT P h0 (.fn (.func g) [] []) args k:=
 ⟨d,fun h' _=>by
  rw[zYx,List.nil_append,List.append_nil];exact(hv h').mono fun _ _ e=>⟨e.2,e.1⟩,hk⟩
structure HidS (k:D→Prop) where
def zkW (o:Option D) (k:D→Prop) (_:HidS k):Prop:=onS o k
@[go_sem ↓] theorem zgU (o:Option D) (k:D→Prop):onS o k=zkW o k ⟨⟩:=(rfl)
@[go_sem ↓] theorem zew (d:D) (k:D→Prop) (w:HidS k):zkW (some d) k w=k d:=(rfl)
structure HidR (k:D→Heap→Prop) where
def zYR (o:VR) (k:D→Heap→Prop) (_:HidR k):Prop:=onR o k
@[go_sem ↓] theorem zgV (o:VR) (k:D→Heap→Prop):onR o k=zYR o k ⟨⟩:=(rfl)
@[go_sem ↓] theorem zex (d:D) (h:Heap) (k:D→Heap→Prop) (w:HidR k):zYR (some (d,h)) k w=k d h:=(rfl)
structure HidH (k:Heap→Prop) where
def zkX (o:Option Heap) (k:Heap→Prop) (_:HidH k):Prop:=onH o k
@[go_sem ↓] theorem zgW (o:Option Heap) (k:Heap→Prop):onH o k=zkX o k ⟨⟩:=(rfl)
@[go_sem ↓] theorem zey (h:Heap) (k:Heap→Prop) (w:HidH k):zkX (some h) k w=k h:=(rfl)
structure HidP (x y:Prop) where
def zez (g:Bool) (x y:Prop) (_:HidP x y):Prop:=gif g x y
@[go_sem ↓] theorem zgX (g:Bool) (x y:Prop):gif g x y=zez g x y ⟨⟩:=(rfl)
@[go_sem ↓] theorem ze0 (x y:Prop) (w:HidP x y):zez true x y w=x:=(rfl)
@[go_sem ↓] theorem zb5 (x y:Prop) (w:HidP x y):zez false x y w=y:=(rfl)
def zWZ (d:D) (x y:Prop) (_:HidP x y):Prop:=onB d x y
@[go_sem ↓] theorem zgY (d:D) (x y:Prop):onB d x y=zWZ d x y ⟨⟩:=(rfl)
@[go_sem ↓] theorem ze1 (x y:Prop) (w:HidP x y):zWZ (.bool true) x y w=x:=(rfl)
@[go_sem ↓] theorem zb6 (x y:Prop) (w:HidP x y):zWZ (.bool false) x y w=y:=(rfl)
theorem zT5 {b:Bool} {x y:Prop} {w:HidP x y} (h1:b=true→x) (h2:b=false→y):zWZ (.bool b) x y w:=by
 cases b
 ·exact h2 rfl
 ·exact h1 rfl
@[go_sem] theorem zin (b:Bool):vun .not (.bool b)=some (.bool (!b)):=(rfl)
section
variable {P:Program} {g:Cfg} {n:Nat} {ro:Option Nat} {c:Code} {Q:Exit→Frm→Heap→Prop} {fr:Frm} {h:Heap}
theorem zH (J:Nat→Frm→Heap→Prop) (len:Nat) (hlen:len≤1073741824) (hJ0:J 0 fr h)
  (step:∀i fr h,i<len→decide ((i:Int)<(len:Int))=true→IntKind.i64.wrap ((i:Int)+1)=((i+1:Nat):Int)→J i fr h→vwp P g n ro c (zEO (J (i+1)) Q) fr h)
  (last:∀fr h,decide ((len:Int)<(len:Int))=false→J len fr h→vwp P g n ro c (zEO (fun _ _=>False) Q) fr h):vwp P g n ro (.loop c) Q fr h:=by
 refine yC J len hJ0 fun i fr h hi hJ=> ?_;by_cases hlt:i<len
 ·refine wE c ?_ fr h (step i fr h hlt (decide_eq_true (by omega)) (ze (by unfold lim;omega)) hJ);intro e fr' h' hq;cases e with
  |normal=>exact⟨hlt,hq⟩
  |_=>exact hq
 ·have he:i=len:=by omega
  subst he;refine wE c ?_ fr h (last fr h (decide_eq_false (by omega)) hJ);intro e fr' h' hq;cases e with
  |normal=>exact hq.elim
  |_=>exact hq
end
section
variable {P:Program} {t e:TypeId} {s:List UInt8} {h:Heap}
theorem zI4 (ha:zJH P t=none) (hu:P.underlying t=some .string) {k k':IntKind} {m n:Nat} (hm:m≤n) (hn:n≤s.length):yk P t (.str s) (some (.int k (m:Int))) (some (.int k' (n:Int))) none h=some (.str ((s.take n).drop m)):=by
 simp[yk,ha,zC6,hu,wC,zJI,zLo,hn,hm]
@[go_sem ↓] theorem zgZ (a b:List UInt8):zVH .geq a b=some (.bool (!zIt a b)):=(rfl)
@[go_sem ↓] theorem zga (a b:List UInt8):zVH .gtr a b=some (.bool !(zIt a b||a==b)):=(rfl)
end
def Own (h0 h:Heap) (sz:Nat) (xs:List (List D)) (d:D):Prop:=Ext h0 h∧wQ h sz xs d∧∀i,zAB d i→h0.next≤i
section
variable {h0 h h':Heap} {sz:Nat} {xs:List (List D)} {d:D}
theorem Own.start (he:Ext h0 h) (sz:Nat):Own h0 h sz [] .nilsl:=⟨he, .inl ⟨rfl,rfl⟩,fun _ hi=>hi.elim⟩
theorem Own.isSl (ho:Own h0 h sz xs d):za sz xs d:=ho.2.1.isSl
theorem Own.fin (ho:Own h0 h sz xs d) (hx:∀x∈xs,yS x):Ext h0 h∧below h0.next (yJ d)∧Fin sz xs (yJ d):=
 ⟨ho.1,z6 (Nat.zero_le _) _ (ho.2.1.fin hx).1,(ho.2.1.fin hx).2⟩
theorem Own.ext (ho:Own h0 h sz xs d) (he:Ext h h'):Own h0 h' sz xs d:=
 ⟨ho.1.trans he,ho.2.1.keep he.2 he.1,ho.2.2⟩
theorem Own.flat (ho:Own h0 h sz xs d):d.flat=true∧d.cells= [d]∧d.notTuple=true:=by
 rcases ho.2.1 with⟨rfl,_⟩ | ⟨t,rfl,_⟩ <;>exact⟨rfl,rfl,rfl⟩
theorem Own.app {P:Program} {ys:List (List D)} {tk:Tk} {t e:TypeId} {K:D→Heap→Prop} (ho:Own h0 h sz xs d) (he:qL P t=some e) (hz:zGi P e=true) (hs:szT P e=sz) (hp:0<sz) (hys:∀y∈ys,y.length=sz) (hy0:ys≠[])
  (hb:(xs.length+ys.length)*yR P e≤lim) (hl:xs.length+ys.length≤lim) (hK:∀d' h',Own h0 h' sz (xs++ys) d'→K d' h'):onR (yD P false h.next t d (.sl sz ys tk) h) K:=
 ho.2.1.app2 he hz hs hp hys hy0 hb hl fun d' h' o n keep tk c f=>hK d' h' ⟨⟨Nat.le_trans ho.1.1 n,fun i hi=>by rw[keep i (Nat.lt_of_lt_of_le hi ho.1.1) (fun q=>by have:=ho.2.2 i q;omega)];exact ho.1.2 i hi⟩,o,fun i hi=>Nat.le_trans ho.1.1 (tk i hi)⟩
theorem Own.appH {P:Program} {ys:List (List D)} {tk:Tk} {t e:TypeId} {K:D→Heap→Prop} {w:HidR K} (ho:Own h0 h sz xs d) (he:qL P t=some e) (hz:zGi P e=true) (hs:szT P e=sz) (hp:0<sz) (hys:∀y∈ys,y.length=sz) (hy0:ys≠[])
  (hb:(xs.length+ys.length)*yR P e≤lim) (hl:xs.length+ys.length≤lim) (hK:∀d' h',Own h0 h' sz (xs++ys) d'→K d' h'):zYR (yD P false h.next t d (.sl sz ys tk) h) K w:=ho.app he hz hs hp hys hy0 hb hl hK
end
theorem zio (b c:UInt8):((b.toNat:Int)==(c.toNat:Int))=(b==c):=by
 by_cases e:b=c
 ·simp[e]
 ·rw[beq_eq_false_iff_ne.2 e,beq_eq_false_iff_ne.2 (fun h=>e (UInt8.toNat_inj.1 (by omega)))]
theorem zaE (a b:Nat):decide ((a:Int)>(b:Int))=decide (a>b):=by
 by_cases e:a>b
 ·rw[decide_eq_true e,decide_eq_true (by omega)]
 ·rw[decide_eq_false e,decide_eq_false (by omega)]
theorem zIH {α:Type} {p:α→Bool} {l:List α} {i:Nat} (hi:i<l.length) (hp:p l[i]=true):l.any p=true:=List.any_eq_true.2 ⟨_,List.getElem_mem hi,hp⟩
theorem zEF {α:Type} {p:α→Bool} {l:List α} (h:∀j (hj:j<l.length),j<l.length→p l[j]=false):l.any p=false:=by
 rw[List.any_eq_false];intro x hx;obtain⟨j,hj,rfl⟩:=List.mem_iff_getElem.1 hx;rw[h j hj hj];exact Bool.false_ne_true
theorem qG {α:Type} {p:α→Bool} {l:List α} {i:Nat} (hi:i<l.length) (hj:∀j (hj:j<l.length),j<i→p l[j]=false) (hp:p l[i]=false):∀j (hj:j<l.length),j<i+1→p l[j]=false:=fun j hjl hji=>by
 rcases Nat.lt_succ_iff_lt_or_eq.1 hji with hji|rfl
 ·exact hj j hjl hji
 ·exact hp
set_option maxRecDepth 100000
@[go_sem] theorem ziq (s:List UInt8) (h:Heap):zC1 Tryz.prog 9 (.str s) h=some (.int .i64 s.length):=wF Tryz.underlying9
theorem zYS {s:List UInt8} {i:Nat} (hi:i<s.length):zBv Tryz.prog 9 (.str s) (.int .i64 (i:Int))=some (.int .u8 (s[i].toNat:Int)):=zAi Tryz.underlying9 (List.getElem?_eq_getElem hi)
theorem zaF {s:List UInt8} {m n:Nat} (hm:m≤n) (hn:n≤s.length) (h:Heap):yk Tryz.prog 9 (.str s) (some (.int .i64 (m:Int))) (some (.int .i64 (n:Int))) none h=some (.str ((s.take n).drop m)):=zI4 zPS Tryz.underlying9 hm hn
theorem ze2 {s:List UInt8} {n:Nat} (hn:n≤s.length) (h:Heap):yk Tryz.prog 9 (.str s) (some (.int .i64 (n:Int))) none none h=some (.str (s.drop n)):=zFF zPS Tryz.underlying9 hn
theorem yV {l:List (List UInt8)} {d:D} (hd:za 1 (yI l) d) (h:Heap):zC1 Tryz.prog 40 d h=some (.int .i64 l.length):=by rw[qC hd Tryz.underlying40,zp]
theorem wb {l:List (List UInt8)} {d:D} (hd:za 1 (yI l) d) {i:Nat} (hi:i<l.length):zX Tryz.prog 40 d (.int .i64 (i:Int))=some (.iptr [.str l[i]] 0):=zd hd yq zAe (zHC hi)
theorem zCj (s:List UInt8) (nid:Nat) (h:Heap):zM Tryz.prog false nid 40 1 [(0, .str s)] h=some (.sl 1 [[.str s]] .full,h):=yf yq zFv zAe rfl rfl (by omega) (by omega) rfl rfl
theorem zQJ (l m:List (List UInt8)):yI (l++m)=yI l++yI m:=by simp[yI]
theorem Own.str {h0 h:Heap} {l:List (List UInt8)} {d:D} {x:List UInt8} {K:D→Heap→Prop} {w:HidR K} (ho:Own h0 h 1 (yI l) d) (hl:l.length≤16777216) (hK:∀d' h',Own h0 h' 1 (yI (l++ [x])) d'→K d' h'):zYR (yD Tryz.prog false h.next 40 d (.sl 1 [[.str x]] .full) h) K w:=
 ho.appH yq zGS zAe (by omega) (by simp) (by simp) (by simp only[zp,zAo,List.length_cons,List.length_nil];unfold lim;omega) (by simp only[zp,List.length_cons,List.length_nil];unfold lim;omega) fun d' h' o=>hK d' h' (by rw[zQJ];exact o)
end Go.V
