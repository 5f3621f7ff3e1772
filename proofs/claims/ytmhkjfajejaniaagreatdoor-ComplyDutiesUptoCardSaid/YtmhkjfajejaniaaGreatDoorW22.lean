/- Rules of the machine of abstract values, part 4. No condition. -/
import Derived.Test.YtmhkjfajejaniaaGreatDoorW21
import Derived.Shelf.Strings.Builder1
import Derived.Test.YtmhkjfajejaniaaGreatDoorW17
import Derived.Test.YtmhkjfajejaniaaGreatDoorW18
set_option linter.all false
namespace Go.V
def wU (l:List Int):List (List D):=l.map fun n=>[.int .i64 n]
theorem yp (l:List Int):(wU l).length=l.length:=List.length_map ..
theorem zQM {l:List Int} {i:Nat} (h:i<l.length):(wU l)[i]? =some [.int .i64 l[i]]:=by simp[wU,h]
section
variable {P:Program} {mx:Nat} {found:D} {Y:List (List Int)→(Nat→Prop)→Heap→Prop} {id:Nat} {L:LRec} {ks:List (List Int)} {els:Nat→List (List Int)} {k:Nat} {S:Nat→Prop} {h:Heap}
end
theorem zab {H:Heap} (o o2:Obj):((H.new H.next o).new (H.new H.next o).next o2).at' H.next=some o:=by
 rw[zF (by rw[zD];omega),zJ]
theorem zOR {P:Program} {t:TypeId} {H:Heap} {c x:D} {o2:Obj} (hs:szT P t=1) (hc:x.cells= [x]) (hf:x.flat=true):
  zQ P t (.ptr H.next 0) x ((H.new H.next (.row [c])).new (H.new H.next (.row [c])).next o2)=some ((H.new H.next (.row [x])).new (H.new H.next (.row [x])).next o2):=by
 rw[zV (zab _ _) hs (by simp) hc hf];congr 1;simp only[Heap.set,Heap.new,Heap.mk.injEq,true_and]
 funext j
 by_cases hj:j=H.next
 ·subst hj;simp
 ·simp[hj]
theorem zMe {a b c b':List D} (hl:b'.length=b.length):yX (a++b++c) b' a.length=a++b'++c:=by
 simp[yX,hl]
theorem zH3 {P:Program} {nid:Nat} {t e:TypeId} {z x y:D} {sz:Nat} {h:Heap} (he:qC P t=some e) (hz:qD P e=some z) (hs:szT P e=sz) (hzt:z.notTuple=true) (hzl:z.cells.length=sz) (h0:0<sz) (hlim:sz≤1048576)
  (hxt:x.notTuple=true) (hxl:x.cells.length=sz) (hyt:y.notTuple=true) (hyl:y.cells.length=sz):zK P false nid t 2 [(0,x),(1,y)] h=some (.sl sz [x.cells,y.cells] .full,h):=by
 simp only[zK,he,hz,hs];have hrep:zBC 2 z.cells=z.cells++z.cells:=by simp[zBC]
 have hp1:yX (z.cells++z.cells) x.cells (0*sz)=x.cells++z.cells:=by
  have:=zMe (a:=[]) (b:=z.cells) (c:=z.cells) (b':=x.cells) (by rw[hxl,hzl]);simpa using this
 have hp2:yX (x.cells++z.cells) y.cells (1*sz)=x.cells++y.cells:=by
  have:=zMe (a:=x.cells) (b:=z.cells) (c:=[]) (b':=y.cells) (by rw[hyl,hzl]);rw[Nat.one_mul,←hxl];simpa using this
 rw[if_pos (by simp[hzt,hzl,h0];omega)];simp only[qS,hrep];rw[if_pos (by simp[hxt,hxl,hzl])];simp only[qS,hp1];rw[if_pos (by simp[hyt,hyl,hxl,hzl])];simp only[qS,hp2];have hc:yD sz 2 (x.cells++y.cells)= [x.cells,y.cells]:=by
  simp only[yD];rw[List.take_append_of_le_length (by omega),List.take_of_length_le (by omega),List.drop_append_of_le_length (by omega),List.drop_eq_nil_of_le (by omega),List.nil_append,List.take_of_length_le (by omega)]
 simp[hc]
open Go.RowKit (Below)
open Go.Shelf Go.Proofs
open Go.Proofs
section
variable {P:Program} {m:Bool} {nid:Nat} {h:Heap} {fr:Frm} {k:D→Heap→Prop}
def zgn (P:Program) (t:TypeId) (d:D):Option D:=
 match d with
 | .nilsl=>match P.underlying t with
  |some (.slice _)=>some (.int .i64 0)
  |_=>none
 |_=>none
@[go_sem ↓] theorem zl0 (t:TypeId) (x:Operand):qy P m nid (.call ⟨.builtin .cap,#[x],#[t]⟩) (zw fr) h k=onS (zgn P t (zw fr x)) (k · h):=by
 refine zAx rfl ?_;simp only[vop,zA3,zgn,List.map_cons,List.map_nil];cases zw fr x<;>try rfl
 simp only[];cases P.underlying t with
 |none=>rfl
 |some y=>cases y<;>rfl
@[go_sem ↓] theorem zjB (t:TypeId) (x:Operand):qy P m nid (.call ⟨.builtin .clear,#[x],#[t]⟩) (zw fr) h k=onH (zDy P t (zw fr x) h) (k wE ·):=zSy rfl rfl
theorem zWw {t e:TypeId} (hu:P.underlying t=some (.slice e)):zgn P t .nilsl=some (.int .i64 0):=by simp[zgn,hu]
end
abbrev KV:=List (List UInt8×List UInt8)
def kvD (m:KV):List (D×D):=m.map fun p=>(.str p.1, .str p.2)
def zFr (k:List UInt8):KV→Option (List UInt8)
 | []=>none
 |(k',v)::m=>if k==k' then some v else zFr k m
def zKt (k v:List UInt8):KV→KV
 | []=>[(k,v)]
 |(k',v')::m=>if k==k' then(k,v)::m else(k',v')::zKt k v m
theorem zG0 (p:List UInt8×List UInt8) (m:KV):kvD (p::m)=(.str p.1, .str p.2)::kvD m:=rfl
theorem zDE (k k':List UInt8):eqK [.s] (D.str k).cells (D.str k').cells=some (k==k'):=by
 show(eqK [] [] []).map (k==k'&& ·)=_;simp[eqK]
theorem zKu (k:List UInt8):∀m:KV,zBq [.s] (.str k) (kvD m)=some ((zFr k m).map .str)
 | []=>rfl
 |(k',v)::m=>by
  have ih:=zKu k m;rw[zG0,zBq,zDE];cases h:(k==k') with
  |true=>simp[zFr,h]
  |false=>simp only[zFr,h,ih];rfl
theorem zUP (k v:List UInt8):∀m:KV,zO8 [.s] (.str k) (.str v) (kvD m)=some (kvD (zKt k v m))
 | []=>rfl
 |(k',v')::m=>by
  have ih:=zUP k v m;rw[zG0,zO8,zDE];cases h:(k==k') with
  |true=>simp[zKt,h,zG0]
  |false=>simp[zKt,h,zG0,ih]
theorem zMf (m:KV):(kvD m).all (fun x=>zP false x.1)=true:=by
 rw[List.all_eq_true];intro x hx;obtain⟨p,_,rfl⟩:=List.mem_map.1 hx;rfl
section
variable {P:Program} {t kt e:TypeId} {id:Nat} {h:Heap} {m:KV}
theorem zRT (hi:h.at' id=some (.map (kvD m))) (hm:zNg P t=some (kt,e)) (hk:zNh P kt=some (false,[.s])) (hz:qD P e=some (.str [])) (k:List UInt8) (ok:Bool):
  yQ P t (.map id) (.str k) ok h=some (zDx ok (.str []) ((zFr k m).map .str)):=by
 simp only[yQ,hm,hk,hz,zIl,hi,zC1,zMf,zDE,zKu,show zP false (.str k)=true from rfl,Option.isSome_some,Bool.and_self,if_true]
theorem zKv (hi:h.at' id=some (.map (kvD m))) (hm:zNg P t=some (kt,e)) (hk:zNh P kt=some (false,[.s])) (k v:List UInt8):
  yJ P t (.map id) (.str k) (.str v) h=some (h.set id (.map (kvD (zKt k v m)))):=by
 simp only[yJ,hm,hk,hi,zMf,zDE,zKu,zUP,show zP false (.str k)=true from rfl,Option.isSome_some,Bool.and_self,if_true]
end
def zgo (P:Program) (h0:Heap) (f:D) (args:List D) (k:D→Prop):Prop:=∃d,(∀h',HLe h0 h'→zGU P f args h' fun d' h''=>d'=d∧h''=h')∧k d
@[congr] theorem zcU {P:Program} {h0:Heap} {f f':D} {args args':List D} {k:D→Prop} (hf:f=f') (ha:args=args'):zgo P h0 f args k=zgo P h0 f' args' k:=by rw[hf,ha]
@[go_sem ↓] theorem zac {P:Program} {h0:Heap} {fr:Frm} (f:Operand) (args:List Operand) (ats:Array TypeId) (k:D→Prop):zHz P h0 (.call ⟨.value f,args.toArray,ats⟩) (zw fr) k=zgo P h0 (zw fr f) (args.map (zw fr)) k:=(rfl)
theorem zad {P:Program} {h0:Heap} {g:FuncId} {args:List D} {k:D→Prop} (d:D) (hv:∀h',zA P g args h' fun r h''=>h''=h'∧r=d) (hk:k d):zgo P h0 (.fn (.func g) [] []) args k:=
 ⟨d,fun h' _=>by
  rw[zZH,List.nil_append,List.append_nil];exact(hv h').mono fun _ _ e=>⟨e.2,e.1⟩,hk⟩
structure HidS (k:D→Prop) where
def zkz (o:Option D) (k:D→Prop) (_:HidS k):Prop:=onS o k
@[go_sem ↓] theorem zgp (o:Option D) (k:D→Prop):onS o k=zkz o k ⟨⟩:=(rfl)
@[go_sem ↓] theorem zfP (d:D) (k:D→Prop) (w:HidS k):zkz (some d) k w=k d:=(rfl)
structure HidR (k:D→Heap→Prop) where
def zae (o:VR) (k:D→Heap→Prop) (_:HidR k):Prop:=onR o k
@[go_sem ↓] theorem zgq (o:VR) (k:D→Heap→Prop):onR o k=zae o k ⟨⟩:=(rfl)
@[go_sem ↓] theorem zfQ (d:D) (h:Heap) (k:D→Heap→Prop) (w:HidR k):zae (some (d,h)) k w=k d h:=(rfl)
structure HidH (k:Heap→Prop) where
def zk0 (o:Option Heap) (k:Heap→Prop) (_:HidH k):Prop:=onH o k
@[go_sem ↓] theorem zgr (o:Option Heap) (k:Heap→Prop):onH o k=zk0 o k ⟨⟩:=(rfl)
@[go_sem ↓] theorem zfR (h:Heap) (k:Heap→Prop) (w:HidH k):zk0 (some h) k w=k h:=(rfl)
structure HidP (x y:Prop) where
def zfS (g:Bool) (x y:Prop) (_:HidP x y):Prop:=gif g x y
@[go_sem ↓] theorem zgs (g:Bool) (x y:Prop):gif g x y=zfS g x y ⟨⟩:=(rfl)
@[go_sem ↓] theorem zfT (x y:Prop) (w:HidP x y):zfS true x y w=x:=(rfl)
@[go_sem ↓] theorem zcV (x y:Prop) (w:HidP x y):zfS false x y w=y:=(rfl)
def zWx (d:D) (x y:Prop) (_:HidP x y):Prop:=onB d x y
@[go_sem ↓] theorem zgt (d:D) (x y:Prop):onB d x y=zWx d x y ⟨⟩:=(rfl)
@[go_sem ↓] theorem zfU (x y:Prop) (w:HidP x y):zWx (.bool true) x y w=x:=(rfl)
@[go_sem ↓] theorem zcW (x y:Prop) (w:HidP x y):zWx (.bool false) x y w=y:=(rfl)
theorem zUQ {b:Bool} {x y:Prop} {w:HidP x y} (h1:b=true→x) (h2:b=false→y):zWx (.bool b) x y w:=by
 cases b
 ·exact h2 rfl
 ·exact h1 rfl
@[go_sem] theorem zjC (b:Bool):vun .not (.bool b)=some (.bool (!b)):=(rfl)
section
variable {P:Program} {g:Cfg} {n:Nat} {ro:Option Nat} {c:Code} {Q:Exit→Frm→Heap→Prop} {fr:Frm} {h:Heap}
theorem zG (J:Nat→Frm→Heap→Prop) (len:Nat) (hlen:len≤1073741824) (hJ0:J 0 fr h)
  (step:∀i fr h,i<len→decide ((i:Int)<(len:Int))=true→IntKind.i64.wrap ((i:Int)+1)=((i+1:Nat):Int)→J i fr h→vwp P g n ro c (zEF (J (i+1)) Q) fr h)
  (last:∀fr h,decide ((len:Int)<(len:Int))=false→J len fr h→vwp P g n ro c (zEF (fun _ _=>False) Q) fr h):vwp P g n ro (.loop c) Q fr h:=by
 refine zy J len hJ0 fun i fr h hi hJ=> ?_;by_cases hlt:i<len
 ·refine wA c ?_ fr h (step i fr h hlt (decide_eq_true (by omega)) (zh (by unfold lim;omega)) hJ);intro e fr' h' hq;cases e with
  |normal=>exact⟨hlt,hq⟩
  |_=>exact hq
 ·have he:i=len:=by omega
  subst he;refine wA c ?_ fr h (last fr h (decide_eq_false (by omega)) hJ);intro e fr' h' hq;cases e with
  |normal=>exact hq.elim
  |_=>exact hq
end
section
variable {P:Program} {t e:TypeId} {s:List UInt8} {h:Heap}
theorem zIu (ha:zI5 P t=none) (hu:P.underlying t=some .string) {k k':IntKind} {m n:Nat} (hm:m≤n) (hn:n≤s.length):yY P t (.str s) (some (.int k (m:Int))) (some (.int k' (n:Int))) none h=some (.str ((s.take n).drop m)):=by
 simp[yY,ha,zC0,hu,qx,zI6,zLf,hn,hm]
@[go_sem ↓] theorem zgu (a b:List UInt8):zVZ .geq a b=some (.bool (!zIi a b)):=(rfl)
@[go_sem ↓] theorem zgv (a b:List UInt8):zVZ .gtr a b=some (.bool !(zIi a b||a==b)):=(rfl)
end
def Own (h0 h:Heap) (sz:Nat) (xs:List (List D)) (d:D):Prop:=Ext h0 h∧wD h sz xs d∧∀i,wo d i→h0.next≤i
section
variable {h0 h h':Heap} {sz:Nat} {xs:List (List D)} {d:D}
theorem Own.start (he:Ext h0 h) (sz:Nat):Own h0 h sz [] .nilsl:=⟨he, .inl ⟨rfl,rfl⟩,fun _ hi=>hi.elim⟩
theorem Own.isSl (ho:Own h0 h sz xs d):zf sz xs d:=ho.2.1.isSl
theorem Own.fin (ho:Own h0 h sz xs d) (hx:∀x∈xs,yr x):Ext h0 h∧below h0.next (yE d)∧Fin sz xs (yE d):=
 ⟨ho.1,zz (Nat.zero_le _) _ (ho.2.1.fin hx).1,(ho.2.1.fin hx).2⟩
theorem Own.ext (ho:Own h0 h sz xs d) (he:Ext h h'):Own h0 h' sz xs d:=
 ⟨ho.1.trans he,ho.2.1.keep he.2 he.1,ho.2.2⟩
theorem Own.flat (ho:Own h0 h sz xs d):d.flat=true∧d.cells= [d]∧d.notTuple=true:=by
 rcases ho.2.1 with⟨rfl,_⟩ | ⟨t,rfl,_⟩ <;>exact⟨rfl,rfl,rfl⟩
theorem Own.app {P:Program} {ys:List (List D)} {tk:Tk} {t e:TypeId} {K:D→Heap→Prop} (ho:Own h0 h sz xs d) (he:qC P t=some e) (hz:zGk P e=true) (hs:szT P e=sz) (hp:0<sz) (hys:∀y∈ys,y.length=sz) (hy0:ys≠[])
  (hb:(xs.length+ys.length)*yL P e≤lim) (hl:xs.length+ys.length≤lim) (hK:∀d' h',Own h0 h' sz (xs++ys) d'→K d' h'):onR (z8 P false h.next t d (.sl sz ys tk) h) K:=
 ho.2.1.app2 he hz hs hp hys hy0 hb hl fun d' h' o n keep tk c f=>hK d' h' ⟨⟨Nat.le_trans ho.1.1 n,fun i hi=>by rw[keep i (Nat.lt_of_lt_of_le hi ho.1.1) (fun q=>by have:=ho.2.2 i q;omega)];exact ho.1.2 i hi⟩,o,fun i hi=>Nat.le_trans ho.1.1 (tk i hi)⟩
theorem Own.appH {P:Program} {ys:List (List D)} {tk:Tk} {t e:TypeId} {K:D→Heap→Prop} {w:HidR K} (ho:Own h0 h sz xs d) (he:qC P t=some e) (hz:zGk P e=true) (hs:szT P e=sz) (hp:0<sz) (hys:∀y∈ys,y.length=sz) (hy0:ys≠[])
  (hb:(xs.length+ys.length)*yL P e≤lim) (hl:xs.length+ys.length≤lim) (hK:∀d' h',Own h0 h' sz (xs++ys) d'→K d' h'):zae (z8 P false h.next t d (.sl sz ys tk) h) K w:=ho.app he hz hs hp hys hy0 hb hl hK
end
theorem zjD (b c:UInt8):((b.toNat:Int)==(c.toNat:Int))=(b==c):=by
 by_cases e:b=c
 ·simp[e]
 ·rw[beq_eq_false_iff_ne.2 e,beq_eq_false_iff_ne.2 (fun h=>e (UInt8.toNat_inj.1 (by omega)))]
theorem zaf (a b:Nat):decide ((a:Int)>(b:Int))=decide (a>b):=by
 by_cases e:a>b
 ·rw[decide_eq_true e,decide_eq_true (by omega)]
 ·rw[decide_eq_false e,decide_eq_false (by omega)]
theorem zH4 {α:Type} {p:α→Bool} {l:List α} {i:Nat} (hi:i<l.length) (hp:p l[i]=true):l.any p=true:=List.any_eq_true.2 ⟨_,List.getElem_mem hi,hp⟩
theorem zD6 {α:Type} {p:α→Bool} {l:List α} (h:∀j (hj:j<l.length),j<l.length→p l[j]=false):l.any p=false:=by
 rw[List.any_eq_false];intro x hx;obtain⟨j,hj,rfl⟩:=List.mem_iff_getElem.1 hx;rw[h j hj hj];exact Bool.false_ne_true
theorem yi {α:Type} {p:α→Bool} {l:List α} {i:Nat} (hi:i<l.length) (hj:∀j (hj:j<l.length),j<i→p l[j]=false) (hp:p l[i]=false):∀j (hj:j<l.length),j<i+1→p l[j]=false:=fun j hjl hji=>by
 rcases Nat.lt_succ_iff_lt_or_eq.1 hji with hji|rfl
 ·exact hj j hjl hji
 ·exact hp
set_option maxRecDepth 100000
@[go_sem] theorem zjE (s:List UInt8) (h:Heap):zCr Tryz.prog 9 (.str s) h=some (.int .i64 s.length):=wC Tryz.underlying9
theorem zYn {s:List UInt8} {i:Nat} (hi:i<s.length):zBi Tryz.prog 9 (.str s) (.int .i64 (i:Int))=some (.int .u8 (s[i].toNat:Int)):=zAa Tryz.underlying9 (List.getElem?_eq_getElem hi)
theorem zag {s:List UInt8} {m n:Nat} (hm:m≤n) (hn:n≤s.length) (h:Heap):yY Tryz.prog 9 (.str s) (some (.int .i64 (m:Int))) (some (.int .i64 (n:Int))) none h=some (.str ((s.take n).drop m)):=zIu zPU Tryz.underlying9 hm hn
theorem zfV {s:List UInt8} {n:Nat} (hn:n≤s.length) (h:Heap):yY Tryz.prog 9 (.str s) (some (.int .i64 (n:Int))) none none h=some (.str (s.drop n)):=zE4 zPU Tryz.underlying9 hn
theorem yw {l:List (List UInt8)} {d:D} (hd:zf 1 (yW l) d) (h:Heap):zCr Tryz.prog 40 d h=some (.int .i64 l.length):=by rw[yo hd Tryz.underlying40,z6]
theorem zAb {l:List (List UInt8)} {d:D} (hd:zf 1 (yW l) d) {i:Nat} (hi:i<l.length):zT Tryz.prog 40 d (.int .i64 (i:Int))=some (.iptr [.str l[i]] 0):=zY hd qQ zBg (zGy hi)
theorem zEL (s:List UInt8) (nid:Nat) (h:Heap):zK Tryz.prog false nid 40 1 [(0, .str s)] h=some (.sl 1 [[.str s]] .full,h):=yU qQ zHg zBg rfl rfl (by omega) (by omega) rfl rfl
theorem zQN (l m:List (List UInt8)):yW (l++m)=yW l++yW m:=by simp[yW]
theorem Own.str {h0 h:Heap} {l:List (List UInt8)} {d:D} {x:List UInt8} {K:D→Heap→Prop} {w:HidR K} (ho:Own h0 h 1 (yW l) d) (hl:l.length≤16777216) (hK:∀d' h',Own h0 h' 1 (yW (l++ [x])) d'→K d' h'):zae (z8 Tryz.prog false h.next 40 d (.sl 1 [[.str x]] .full) h) K w:=
 ho.appH qQ zJV zBg (by omega) (by simp) (by simp) (by simp only[z6,zCR,List.length_cons,List.length_nil];unfold lim;omega) (by simp only[z6,List.length_cons,List.length_nil];unfold lim;omega) fun d' h' o=>hK d' h' (by rw[zQN];exact o)
end Go.V
