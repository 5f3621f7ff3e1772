/- A machine of abstract values for programs of the model, further rules, part 4. No condition. -/
import Derived.Test.YtmhkjfajejaniaaGreatDoorW36
import Derived.Test.YtmhkjfajejaniaaGreatDoorW37
import Derived.Test.YtmhkjfajejaniaaGreatDoorW30
set_option linter.all false
namespace Go.V
theorem wN.app3 {P:Program} {h:Heap} {sz:Nat} {xs ys:List (List D)} {d x:D} {t e:TypeId} {K:D→Heap→Prop} (ho:wN h sz xs d) (he:qE P t=some e) (hz:zHE P e=true) (hs:szT P e=sz) (h0:0<sz) (hys:∀y∈ys,y.length=sz) (hx:(x= .nilsl∧ys= [])∨(ys≠[]∧∃tk,x= .sl sz ys tk))
  (hb:(xs.length+ys.length)*yR P e≤lim) (hl:xs.length+ys.length≤lim) (hK:∀d' h',wN h' sz (xs++ys) d'→h.next≤h'.next→(∀i,i<h.next→¬wi d i→h'.at' i=h.at' i)→(∀i,wi d' i→h.next≤i)→d'.cells= [d']→d'.flat=true→K d' h'):onR (z6 P false h.next t d x h) K:=by
 rcases hx with⟨rfl,rfl⟩ | ⟨hy0,tk,rfl⟩
 ·simp only[List.append_nil,List.length_nil,Nat.add_zero] at hK hb hl;simp only[z6,he,hz,hs,zR0,if_true,List.length_nil,Nat.zero_div];rcases ho with⟨rfl,rfl⟩ | ⟨q,rfl,h1,h2⟩
  ·simp only[qN,if_true,zGs];exact hK _ _ (.inl ⟨rfl,rfl⟩) (Nat.le_refl _) (fun i hi _=>rfl) (fun i hi=>hi.elim) rfl rfl
  ·simp only[qN];rw[if_pos (by simp only[Nat.add_zero,Bool.and_eq_true,decide_eq_true_eq];exact⟨⟨trivial,hb⟩,hl⟩)];simp only[h1,Bool.false_eq_true,if_false,zGs];have hc:yC sz 0 []= []:=rfl;rw[hc,List.append_nil];refine hK _ _ (.inr ⟨h.next,rfl,zJ _ _ _,?_⟩) ?_ (fun i hi hn=> ?_) (fun i hi=> ?_) rfl rfl
   ·exact Nat.lt_of_lt_of_le (Nat.lt_succ_self _) (Nat.le_max_right _ _)
   ·exact qY (h.del q) _ _
   ·rw[zG (by omega),yv fun e=>hn (by rw[e];rfl)]
   ·simp only[wi] at hi;omega
 ·exact ho.app2 he hz hs h0 hys hy0 hb hl hK
theorem wN.app4 {P:Program} {h:Heap} {sz:Nat} {xs ys:List (List D)} {d x:D} {t e:TypeId} (ho:wN h sz xs d) (he:qE P t=some e) (hz:zHE P e=true) (hs:szT P e=sz) (h0:0<sz) (hys:∀y∈ys,y.length=sz) (hx:(x= .nilsl∧ys= [])∨(ys≠[]∧∃tk,x= .sl sz ys tk))
  (hb:(xs.length+ys.length)*yR P e≤lim) (hl:xs.length+ys.length≤lim):∃d' h',z6 P false h.next t d x h=some (d',h')∧wN h' sz (xs++ys) d'∧h.next≤h'.next∧(∀i,i<h.next→¬wi d i→h'.at' i=h.at' i)∧(∀i,wi d' i→h.next≤i)∧d'.cells= [d']∧d'.flat=true:=by
 have:=ho.app3 (K:=fun d' h'=>wN h' sz (xs++ys) d'∧h.next≤h'.next∧(∀i,i<h.next→¬wi d i→h'.at' i=h.at' i)∧(∀i,wi d' i→h.next≤i)∧d'.cells= [d']∧d'.flat=true) he hz hs h0 hys hx hb hl fun d' h' a b c e f g=>⟨a,b,c,e,f,g⟩;unfold onR at this;split at this
 ·rename_i d' h' hv;exact⟨d',h',hv,this⟩
 ·exact this.elim
open Go.Proofs
set_option maxRecDepth 100000
theorem zRj {l:List Int} :∀x∈wT l,qC x:=fun x hx=>by
 obtain⟨s,_,rfl⟩:=List.mem_map.1 hx;exact⟨rfl,⟨trivial,trivial⟩,rfl⟩
theorem zRk (num:Int) (l:List Int):qC (zRz num l):=by
 have h:=yO (zRj (l:=l)) (sz:=1) .no;refine⟨rfl,⟨trivial,h.2,trivial⟩,?_⟩;simp only[zRz,yA,h.1];rfl
section
variable (c:Cat) (fs:List Fac) (al:Nat→Option Alt) (O:KV)
def zRl (k:Nat):List (List D):=(List.range k).flatMap fun i:Nat=>vbs (i:Int) (zCo c fs al O i)
end
section
variable {c:Cat} {fs:List Fac} {al:Nat→Option Alt} {O:KV}
theorem zIe (k:Nat):zRl c fs al O (k+1)=zRl c fs al O k++vbs (k:Int) (zCo c fs al O k):=by
 unfold zRl;rw[List.range_succ,List.flatMap_append,List.flatMap_cons,List.flatMap_nil,List.append_nil]
theorem zJ6 {k:Nat} :∀x∈zRl c fs al O k,qC x:=fun x hx=>by
 obtain⟨i,_,h⟩:=List.mem_flatMap.1 hx;obtain⟨l,_,rfl⟩:=List.mem_map.1 h;exact zRk _ _
theorem zNQ (i:Nat):(zCo c fs al O i).length≤(zEV c fs al O i).length:=by
 unfold zCo;refine Nat.le_trans (zBh _) ?_;rw[(qP _).length_eq,List.length_map];exact Nat.le_refl _
def ziy:Nat→Nat
 |0=>4096
 |1=>4096
 |2=>65536
 |3=>16777216
 |4=>256
 |_=>16
theorem zU0 (hn:fs.length≤16) (i:Nat):(zEV c fs al O i).length≤ziy i:=by
 have h4:=zAa (al:=al) hn;have hfm:∀ {α:Type} {l:List α} {f:α→List (List Int)} {m n k:Nat},l.length≤n→(∀x∈l,(f x).length≤m)→n*m≤k→(l.flatMap f).length≤k:=fun h1 h2 h3=>Nat.le_trans (qG h2) (Nat.le_trans (Nat.mul_le_mul_right _ h1) h3);rcases i with _|_|_|_|_|i
 ·exact hfm (m:=1) (f:=qk c fs al) h4 (fun t _=>by unfold qk;split<;>simp) (by decide)
 ·exact hfm (m:=1) (f:=wp c fs al O) h4 (fun t _=>by
   unfold wp;split
   ·simp
   ·split<;>simp) (by decide)
 ·exact hfm (m:=16) (f:=zDQ c fs al) h4 (fun t _=>zIZ c hn al t) (by decide)
 ·exact hfm (m:=4096) (f:=wR c fs al) h4 (fun t _=>zFz c hn al t) (by decide)
 ·exact hfm (m:=16) (n:=16) (f:=zBx fs O) (Nat.le_trans (ye _ fs 0) hn) (fun t _=>zIc hn O t) (by decide)
 ·show(zF0 c fs).length≤16;unfold zF0;split
  ·simp
  ·exact hfm (m:=1) (n:=16) (Nat.le_trans (ye _ fs 0) hn) (fun t _=>Nat.le_refl _) (by omega)
theorem zQf (hn:fs.length≤16):∀k,k≤6→(zRl c fs al O k).length≤16851216:=by
 have hs:∀k,(zRl c fs al O (k+1)).length≤(zRl c fs al O k).length+ziy k:=fun k=>by
  rw[zIe,List.length_append,wq];have:=zNQ (c:=c) (fs:=fs) (al:=al) (O:=O) k;have:=zU0 (c:=c) (al:=al) (O:=O) hn k;omega
 have h0:(zRl c fs al O 0).length=0:=rfl;have h1:=hs 0;have h2:=hs 1;have h3:=hs 2;have h4:=hs 3;have h5:=hs 4;have h6:=hs 5;simp only[ziy,Nat.reduceAdd,Nat.zero_add] at h1 h2 h3 h4 h5 h6;intro k hk;have hk':k=0∨k=1∨k=2∨k=3∨k=4∨k=5∨k=6:=by omega
 rcases hk' with rfl|rfl|rfl|rfl|rfl|rfl|rfl<;>omega
theorem zRm (k:Nat):(zXJ c fs al O k= .nilsl∧vbs (k:Int) (zCo c fs al O k)= [])∨(vbs (k:Int) (zCo c fs al O k)≠[]∧∃tk,zXJ c fs al O k= .sl 2 (vbs (k:Int) (zCo c fs al O k)) tk):=by
 unfold zXJ;by_cases h:zEV c fs al O k= []
 ·rw[if_pos h];refine .inl ⟨rfl,List.length_eq_zero_iff.1 ?_⟩;have:=zNQ (c:=c) (fs:=fs) (al:=al) (O:=O) k;rw[h,List.length_nil] at this;rw[wq];omega
 ·rw[if_neg h];refine .inr ⟨fun e=> ?_,_,rfl⟩;have hl:0<(srt qj ((zEV c fs al O k).map zEU)).length:=by
   rw[(qP _).length_eq,List.length_map];exact List.length_pos_iff.2 h
  have:=zLD (c:=qj) hl _ (Nat.le_refl _) hl;have h2:(zCo c fs al O k).length=0:=by rw[←wq (k:Int),e];rfl
  unfold zCo cpt at h2;omega
end
def zfS (c:Cat) (fs:List Fac) (al:Nat→Option Alt) (O:KV) (n0 k:Nat) (S:Nat→Prop) (h:Heap):Prop:=
 n0<h.next∧∃d,h.at' n0=some (.row [d])∧wN h 2 (zRl c fs al O k) d∧∀i,S i↔(i=n0∨wi d i)
theorem zfS.lcl (c:Cat) (fs:List Fac) (al:Nat→Option Alt) (O:KV) (n0:Nat):Lcl (zfS c fs al O n0):=by
 refine⟨fun k S h y i hi=> ?_,fun k S h h' y hn hk=> ?_⟩
 ·obtain⟨a1,d,a2,a3,a4⟩:=y;rcases(a4 i).1 hi with rfl|q
  ·exact a1
  ·exact(a3.tok q).1
 ·obtain⟨a1,d,a2,a3,a4⟩:=y;exact⟨by omega,d,by rw[hk _ ((a4 _).2 (.inl rfl))];exact a2,a3.loc hn fun i hi=>hk i ((a4 i).2 (.inr hi)),a4⟩
set_option maxHeartbeats 4000000 in
theorem zfT {c:Cat} {fs:List Fac} {al:Nat→Option Alt} {M:KM Int} {O:KV} {sc:List D} {m1 m2:Nat} (hs:Stt c fs al M O sc m1 m2) (hn:fs.length≤16) {g:Heap} (hH:StH M O m1 m2 g):
  zA Tryz.prog 41 [.iptr sc 0] g fun r h'=>h'=g∧Fin 2 (zRl c fs al O 6) r:=by
 refine zA.pure (by kernel_rfl) fun hok'=>zA.strip ?_;refine zA.post fun Q hQ=> ?_;have hcv:=zNP sc;refine zA.of_fn (g:=zTH) mix Tryz.func41 zjs rfl rfl ?_;simp only[Tryz.f41,gJ];obtain⟨G,hG,hGn,g1,hE⟩:∃G:Heap,g.new g.next (.row [.nilsl])=G∧G.next=g.next+1∧G.at' g.next=some (.row [.nilsl])∧Ext g G:=
  ⟨_,rfl,zD _ _,zJ _ _ _,(Ext.refl g).new (Nat.le_refl _) _⟩
 repeat' first|simp only[go_sem,zf6,zUy, *]|apply bc<;>intro hc|(refine zA.mono (hcv _) ?_;rintro r h ⟨hq,rfl⟩)
 subst hq
 rename Heap=>G
 generalize hL:LRec.mk _ _ _ _ _ _ _=L;have hpe:L.pending=none:=by rw[←hL]
 have hrd:L.st= .ready:=by rw[←hL]
 clear hG;have hW:=zfS.lcl c fs al O g.next;have hW0:zfS c fs al O g.next 0 (fun j=>j=g.next∨wi .nilsl j) G:=⟨by omega, .nilsl,g1, .inl ⟨rfl,rfl⟩,fun _=>Iff.rfl⟩;have hHG:=hH.ext hE;refine we (n:=6) (el:=fun i=>[zXJ c fs al O i]) hGn hW hrd hpe hW0 (fun yl hY0=>(zLV hs hn (Z:=fun _ _=>False) yl hY0 (hHG.ext ((Ext.refl G).new (by omega) _)) (fun e=> ?_) (fun e=> ?_)).mono fun r h' ⟨S',a,b,e⟩=>⟨S',a,b,e.resolve_right fun q=>q⟩) ?_ ?_
 ·have:=hH.2.1;rcases e with e|e|e
  ·omega
  ·omega
  ·exact e
 ·have:=hH.2.2;rcases e with e|e|e
  ·omega
  ·omega
  ·exact e
 ·intro k S0 h3 hk hid3 hl3 hw3 hn3;have hl3':=hl3;rw[←hL] at hl3';refine yi.round (g:=zTH) mix hl3' rfl (by kernel_rfl) (by kernel_rfl) (by kernel_rfl) ?_;simp only[go_sem,zf6];refine⟨hl3',?_⟩;generalize hB:LRec.mk .busy _ _ _ _ _ _=B;have hLB:({ B with st:= .ready,pending:=none } :LRec)=L:=by rw[←hB,←hL]
  have hbs:But (fun i=>i=g.next+1) h3 (h3.set (g.next+1) (.loop B)):=⟨by rw[zt];exact Nat.le_refl _,fun j _ hj=>zE hj⟩;obtain⟨a1,d,a2,a3,a4⟩:=hW.round hw3 (fun i hi=>hi) hn3 hbs;obtain⟨H,hHe,hHn,hHi⟩:∃H:Heap,h3.set (g.next+1) (.loop B)=H∧H.next=h3.next∧H.at' (g.next+1)=some (.loop B):=⟨_,rfl,zt _ _ _,zC _ _ _⟩;rw[hHe] at a1 a2 a3 hbs⊢;have hlen:=zQf (c:=c) (al:=al) (O:=O) hn (k+1) (by omega);rw[zIe,List.length_append] at hlen
  obtain⟨d',h6,v1,v2,v3,v4,v5,v6,v7⟩:=a3.app4 (P:=Tryz.prog) (t:=45) wM zSi zB6 (by omega) (zDR _ _) (zRm (c:=c) (fs:=fs) (al:=al) (O:=O) k) (by rw[zMC];unfold lim;omega) (by unfold lim;omega);rw[←zIe] at v2;have hnt:∀i,wi d i→i≠g.next∧i≠g.next+1:=fun i hi=>by
   have:=(a3.tok hi).2;exact⟨fun e=>(by rw[e,a2] at this;cases this),fun e=>(by rw[e,hHi] at this;cases this)⟩
  have b2:h6.at' g.next=some (.row [d]):=by rw[v4 _ (by omega) fun e=>(hnt _ e).1 rfl];exact a2
  have b3:h6.at' (g.next+1)=some (.loop B):=by rw[v4 _ (by omega) fun e=>(hnt _ e).2 rfl];exact hHi
  have hst:zU Tryz.prog 45 (.ptr g.next 0) d' h6=some (h6.set g.next (.row [d'])):=by
   rw[za b2 zXg (by simp) v6 v7];rfl
  have hfin:∀fr,zAG (LpK (g.next+1) L (zfS c fs al O g.next) k S0 h3) (g.next+1) .normal fr (h6.set g.next (.row [d'])):=fun fr=>by
   have hbn:=hbs.1;refine Lp.fin hW hLB hid3 hn3 (S':=fun i=>i=g.next∨wi d' i) ?_ (fun i hi=> ?_) ⟨by rw[zt];omega,fun i hi hne=> ?_⟩ ⟨by rw[zt];omega,d',zC _ _ _,v2.loc (by rw[zt];exact Nat.le_refl _) fun i hi=> ?_,fun i=>Iff.rfl⟩
   ·rw[zE (by omega)];exact b3
   ·rcases hi with rfl|hi
    ·exact .inl ((a4 _).2 (.inl rfl))
    ·exact .inr (by have:=v5 i hi;omega)
   ·rw[zE fun e=>hne (.inr ((a4 i).2 (.inl e))),v4 i (by omega) fun e=>hne (.inr ((a4 i).2 (.inr e))),hbs.2 i hi fun e=>hne (.inl e)]
   ·rw[zE fun e=>by have:=v5 i hi;omega]
  clear hL hLB hB hHe hW0 hQ;simp only[go_sem,zf6,a2,v1,hst];exact hfin _
 ·intro S' h2 hsub hb hw2;obtain⟨a1,d,a2,a3,a4⟩:=hw2;have hf:=a3.fin zJ6;have hE2:Ext g h2:=Ext.of_but hE hb fun j hj=>by
   rcases hj with rfl|hj
   ·exact Nat.le_refl _
   ·exact hj.elim
  have hfn:=hQ d h2 ⟨hE2,zy (Nat.zero_le _) _ hf.1,hf.2⟩;clear hL hcv hW0
  repeat' first|simp only[go_sem,zf6, *]|apply bc<;>intro hc
section
variable {P:Program} {W:Nat→(Nat→Prop)→Heap→Prop} {V:(Nat→Prop)→Heap→Prop} {id n:Nat} {L:LRec} {el:Nat→List D}
end
structure SA where
 M:KM Int
 O:KV
 outs:List (List UInt8)
def zD9 (fs:List Fac) (i:Nat):Nat:=((fs.take i).filter fun f=>f.kind==1).length
def zCp (y:Cho) (k:Nat):Alt:=y.ts.getD k (mkA [])
def zDs (y:Cho) (k:Nat):List UInt8:=y.own.getD k []
def za5 (y:Cho) (fs:List Fac) (i:Nat) (s:SA):SA:=match fs[i]? with
 |none=>s
 |some f=>if(f.kind==1)=true then(if decide (((zCp y (zD9 fs i)).ts.length:Int)>0)=true then⟨zFM (i:Int) (zCp y (zD9 fs i)).d s.M,s.O,s.outs⟩ else s)
  else if(f.kind==2)=true then(if(s.outs.any fun z=>z==f.out)=true then s else⟨s.M,if(!(zDs y s.outs.length== []))=true then zEI f.out (zDs y s.outs.length) s.O else s.O,s.outs++ [f.out]⟩) else s
def zT (y:Cho) (fs:List Fac):Nat→SA
 |0=>⟨[],[],[]⟩
 |i+1=>za5 y fs i (zT y fs i)
def alS (fs:List Fac) (y:Cho) (i:Nat):Option Alt:=match fs[i]? with
 |none=>none
 |some f=>if(f.kind==1)=true then(if decide (((zCp y (zD9 fs i)).ts.length:Int)>0)=true then some (zCp y (zD9 fs i)) else none) else none
section
variable {y:Cho} {fs:List Fac}
theorem zBX {i:Nat} (h:i<fs.length):zT y fs (i+1)=if(fs[i].kind==1)=true then(if decide (((zCp y (zD9 fs i)).ts.length:Int)>0)=true then⟨zFM (i:Int) (zCp y (zD9 fs i)).d (zT y fs i).M,(zT y fs i).O,(zT y fs i).outs⟩ else zT y fs i)
  else if(fs[i].kind==2)=true then(if((zT y fs i).outs.any fun z=>z==fs[i].out)=true then zT y fs i else⟨(zT y fs i).M,if(!(zDs y (zT y fs i).outs.length== []))=true then zEI fs[i].out (zDs y (zT y fs i).outs.length) (zT y fs i).O else(zT y fs i).O,(zT y fs i).outs++ [fs[i].out]⟩) else zT y fs i:=by
 show za5 y fs i (zT y fs i)=_;unfold za5;rw[List.getElem?_eq_getElem h]
theorem zfU {i:Nat} (h:i<fs.length):alS fs y i=if(fs[i].kind==1)=true then(if decide (((zCp y (zD9 fs i)).ts.length:Int)>0)=true then some (zCp y (zD9 fs i)) else none) else none:=by
 unfold alS;rw[List.getElem?_eq_getElem h]
theorem zJ7:∀k,k≤fs.length→∀j:Nat,zDq (j:Int) (zT y fs k).M=if j<k then(alS fs y j).map Alt.d else none
 |0,_,j=>by simp[zT,zDq]
 |k+1,hk,j=>by
  have ih:=zJ7 k (by omega) j;have hlt:k<fs.length:=by omega
  have ha:=zfU (y:=y) hlt;have key:zDq (j:Int) (zT y fs (k+1)).M=if j=k then(alS fs y k).map Alt.d else zDq (j:Int) (zT y fs k).M:=by
   rw[zBX hlt,ha];have hk0:j=k→zDq (j:Int) (zT y fs k).M=none:=fun e=>by rw[ih,if_neg (by omega)]
   split
   ·split
    ·rw[zNG];by_cases e:j=k
     ·subst e;simp
     ·have:((j:Int)==(k:Int))=false:=by simp;omega
      rw[this,if_neg e];simp
    ·by_cases e:j=k
     ·rw[if_pos e,hk0 e];rfl
     ·rw[if_neg e]
   ·split
    ·split
     ·by_cases e:j=k
      ·rw[if_pos e,hk0 e];rfl
      ·rw[if_neg e]
     ·by_cases e:j=k
      ·rw[if_pos e,hk0 e];rfl
      ·rw[if_neg e]
    ·by_cases e:j=k
     ·rw[if_pos e,hk0 e];rfl
     ·rw[if_neg e]
  rw[key,ih];by_cases e:j=k
  ·subst e;simp
  ·rw[if_neg e];by_cases e2:j<k
   ·rw[if_pos e2,if_pos (by omega)]
   ·rw[if_neg e2,if_neg (by omega)]
theorem zNR {i:Nat} (h:i<fs.length):(zT y fs (i+1)).outs=(zT y fs i).outs∨∃o,(zT y fs (i+1)).outs=(zT y fs i).outs++ [o]:=by
 rw[zBX h];split
 ·split<;>exact .inl rfl
 ·split
  ·split
   ·exact .inl rfl
   ·exact .inr ⟨_,rfl⟩
  ·exact .inl rfl
theorem zU1 {i:Nat} :∀k,i+k≤fs.length→(zT y fs i).outs.length≤(zT y fs (i+k)).outs.length
 |0,_=>Nat.le_refl _
 |k+1,h=>by
  have ih:=zU1 (i:=i) k (by omega);rcases zNR (y:=y) (fs:=fs) (i:=i+k) (by omega) with e| ⟨o,e⟩
  ·rw[←Nat.add_assoc,e];exact ih
  ·rw[←Nat.add_assoc,e,List.length_append];omega
theorem zJ8:∀k,k≤fs.length→(zT y fs k).outs.length≤k
 |0,_=>Nat.le_refl _
 |k+1,h=>by
  have ih:=zJ8 k (by omega);rcases zNR (y:=y) (fs:=fs) (i:=k) (by omega) with e| ⟨o,e⟩
  ·rw[e];omega
  ·rw[e,List.length_append,List.length_singleton];omega
theorem zIf {i:Nat} (h:i<fs.length):zD9 fs (i+1)=zD9 fs i+(if(fs[i].kind==1)=true then 1 else 0):=by
 unfold zD9;rw[List.take_succ_eq_append_getElem h,List.filter_append,List.length_append];congr 1;by_cases e:(fs[i].kind==1)=true<;>simp[e]
theorem zU2 {i:Nat} :∀k,i+k≤fs.length→zD9 fs i≤zD9 fs (i+k)
 |0,_=>Nat.le_refl _
 |k+1,h=>by
  have ih:=zU2 (i:=i) k (by omega);rw[←Nat.add_assoc,zIf (by omega)];omega
theorem zJ9:∀k,k≤fs.length→zD9 fs k≤k
 |0,_=>by simp[zD9]
 |k+1,h=>by
  have ih:=zJ9 k (by omega);rw[zIf (by omega)];split<;>omega
end
set_option maxHeartbeats 8000000 in
theorem za6 {c:Cat} {d x yd:D} {fs:List Fac} {y:Cho} (hc:qX c d) (sm:c.Sm) (hx:zX 12 (zIH fs) x) (hlen:fs.length≤256) (hok:∀f∈fs,f.Ok) (hy:zai y yd) (ysm:y.Sm)
  (hal:∀a∈y.ts,a.ts≠[]→a.Ok) (hk:zD9 fs fs.length≤y.ts.length) (ho:(zT y fs fs.length).outs.length≤y.own.length) (g:Heap):
  zA Tryz.prog 40 [d,x,yd] g fun r h'=>Ext g h'∧∃sc m1 m2,r= .iptr sc 0∧Stt c fs (alS fs y) (zT y fs fs.length).M (zT y fs fs.length).O sc m1 m2∧StH (zT y fs fs.length).M (zT y fs fs.length).O m1 m2 h'∧g.next≤m1∧g.next≤m2:=by
 have hc0:=hc;obtain⟨a,b,e,p,rfl,ha,hb,he,hp⟩:=hc;obtain⟨ta,oa,rfl,hta,hoa⟩:=hy;have hll:=zCb hx;obtain⟨x1,x2,_⟩:=zK hx;have hv4:zR true 4 [a,b,e,p] 0=some (.agg [a,b,e,p]):=zB rfl (by omega);obtain⟨sc,hsc⟩:∃sc,[a,b,e,p,x, .map g.next, .map (g.next+1)]=sc:=⟨_,rfl⟩;have hvb:yG Tryz.prog 151 [(0, .agg [a,b,e,p]),(1,x),(2, .map g.next),(3, .map (g.next+1))]=some (.agg sc):=by
  rw[←hsc];clear hsc x1 x2 hll;rcases hx with⟨rfl,_⟩ | ⟨tk,rfl⟩ <;>simp[yG,zN5,zSo,qZ,yW,D.notTuple,D.cells]
 obtain⟨G,hG,hE,hst⟩:∃G:Heap,(g.new g.next (.map [])).new (g.next+1) (.map [])=G∧Ext g G∧StH [] [] g.next (g.next+1) G:=
  ⟨_,rfl,((Ext.refl g).new (Nat.le_refl _) _).new (by omega) _,⟨by rw[zG (by omega)];exact zJ _ _ _,zJ _ _ _⟩,by rw[zm _ (by rw[zD];exact Nat.le_refl _)];omega,by rw[zm _ (by rw[zD];exact Nat.le_refl _)];omega⟩
 have hs1:sc[5]? =some (.map g.next):=by rw[←hsc];rfl
 have hs2:sc[6]? =some (.map (g.next+1)):=by rw[←hsc];rfl
 have hStt:Stt c fs (alS fs y) (zT y fs fs.length).M (zT y fs fs.length).O sc g.next (g.next+1):=⟨⟨a,b,e,p,x,hsc.symm,hc0,hx,ha⟩,sm,hlen,hok,fun i hi=>by rw[zJ7 _ (Nat.le_refl _) i,if_pos hi],fun i z hz=>by
  unfold alS at hz;split at hz
  ·cases hz
  ·split at hz
   ·split at hz
    ·rename_i h1 h2;cases hz;have h2:=of_decide_eq_true h2;unfold zCp at h2⊢;rw[List.getD_eq_getElem?_getD] at h2⊢;cases hq:y.ts[zD9 fs i]? with
     |none=>rw[hq] at h2;simp[mkA] at h2
     |some z=>rw[hq] at h2;exact hal z (List.mem_of_getElem? hq) fun e=>by simp[e] at h2
    ·cases hz
   ·cases hz⟩
 clear hc0;refine zA.of_fn (g:=zVs) mix Tryz.func40 zjh rfl rfl ?_;simp only[Tryz.f40,gJ]
 repeat' first|simp only[go_sem,zS6,zD, *]|apply bc<;>intro hc
 clear hG hvb hsc;refine zF (fun i fr h=>fr 1=x∧fr 5= .iptr [ta,oa] 0∧fr 7= .iptr sc 0∧fr 8= .int .i64 ((zD9 fs i:Nat):Int)∧fr 19=x∧fr 20= .int .i64 (fs.length:Int)∧fr 21= .int .i64 (i:Int)∧∃u,fr 9=u∧wN h 1 (yP (zT y fs i).outs) u∧(∀j,wi u j→g.next≤j)∧Ext g h∧StH (zT y fs i).M (zT y fs i).O g.next (g.next+1) h) fs.length (by omega) ?_ ?_ ?_
 ·have hz:zD9 fs 0=0:=rfl;have hres:∃u,D.nilsl=u∧wN G 1 (yP (zT y fs 0).outs) u∧(∀j,wi u j→g.next≤j)∧Ext g G∧StH (zT y fs 0).M (zT y fs 0).O g.next (g.next+1) G:=⟨_,rfl, .inl ⟨rfl,rfl⟩,fun j hj=>hj.elim,hE,hst⟩;simp only[go_sem,zS6,true_and,and_true,Int.ofNat_zero,hz];exact hres
 ·clear hE hst;rintro i fr h hlt e1 ew ⟨f1,f5,f7,f8,f19,f20,f21,u,f9,hO,hut,hE,hst⟩;have a1:=qf hx hlt;have hw:zR true 12 fs[i].cells 0=some (.agg fs[i].cells):=zB rfl (by omega);have hstf:=zMm (hok _ (List.getElem_mem hlt));have hS:=zBX (y:=y) hlt;have hln:=zIf hlt;have hlb:=zU2 (fs:=fs) (i:=i+1) (fs.length- (i+1)) (by omega);have hob:=zU1 (y:=y) (fs:=fs) (i:=i+1) (fs.length- (i+1)) (by omega);rw[show i+1+(fs.length- (i+1))=fs.length by omega] at hlb hob;have hol:=zJ8 (y:=y) (fs:=fs) i (by omega);have hll2:=zJ9 (fs:=fs) i (by omega);have k0:fs[i].cells[0]? =some (.int .i64 fs[i].kind):=rfl
  have k2:fs[i].cells[2]? =some (.str fs[i].out):=rfl;generalize fs[i]=f at *
  generalize zT y fs i=s at *
  have hnx:h.next<(h.new h.next (.row f.cells)).next:=by rw[zD];omega
  obtain⟨H,hH,hrow,hEH,hOH,hsH,hnH⟩:∃H:Heap,h.new h.next (.row f.cells)=H∧H.at' h.next=some (.row f.cells)∧Ext g H∧wN H 1 (yP s.outs) u∧StH s.M s.O g.next (g.next+1) H∧h.next<H.next:=
   ⟨_,rfl,zJ _ _ _,hE.new hE.1 _,hO.loc (by omega) fun j hj=>zG (by have:=(hO.tok hj).1;omega),hst.ext ((Ext.refl h).new (Nat.le_refl _) _),hnx⟩
  obtain⟨n0,hn0⟩:∃n,h.next=n:=⟨_,rfl⟩;have hE1:=hE.1;rw[hn0] at hH hrow hnH hE1 hnx;have hmn:g.next+1<n0:=by have:=hst.2.2;omega
  have hst1:=hstf h n0;rw[hH] at hst1;clear hstf hE hst hO hnx hok hH hStt;have quiet:zT y fs (i+1)=s→∃u',u=u'∧wN H 1 (yP (zT y fs (i+1)).outs) u'∧(∀j,wi u' j→g.next≤j)∧Ext g H∧StH (zT y fs (i+1)).M (zT y fs (i+1)).O g.next (g.next+1) H:=fun e=>by
   rw[e];exact⟨u,rfl,hOH,hut,hEH,hsH⟩
  cases b1:(f.kind==1) with
  |true=>
   rw[b1] at hS hln;simp only[if_true] at hS hln;have hlk:zD9 fs i<y.ts.length:=by omega
   have a2:=zEN hta hlk;have hav:zCp y (zD9 fs i)=y.ts[zD9 fs i]:=by unfold zCp;rw[List.getD_eq_getElem?_getD,List.getElem?_eq_getElem hlk];rfl
   have hsm:=ysm.ts _ (List.getElem_mem hlk);rw[hav] at hS;have ew2:IntKind.i64.wrap (((zD9 fs i:Nat):Int)+1)=((zD9 fs (i+1):Nat):Int):=by rw[hln];exact ze (by unfold lim;omega)
   clear hln hlb hav hob;generalize y.ts[zD9 fs i]=z at *
   have hlz:=qy hsm.sl;obtain⟨z1,z2,_⟩:=zK hsm.sl;cases b2:decide ((z.ts.length:Int)>0) with
   |false=>
    rw[b2] at hS;have hres:=quiet (by rw[hS];rfl);clear hS quiet hOH hut hEH hsH
    repeat' first|simp only[go_sem,zS6, *]|apply bc<;>intro hc
   |true=>
    rw[b2,if_pos rfl] at hS;have hmu:yM Tryz.prog 148 (.map g.next) (.int .i64 (i:Int)) z.d H=some (H.set g.next (.map (kmD (D.int .i64) (zFM (i:Int) z.d s.M)))):=zLR zfF hsH.1.1 zPQ zXe (i:Int) z.d;have hres:∃u',u=u'∧wN (H.set g.next (.map (kmD (D.int .i64) (zFM (i:Int) z.d s.M)))) 1 (yP (zT y fs (i+1)).outs) u'∧(∀j,wi u' j→g.next≤j)∧Ext g (H.set g.next (.map (kmD (D.int .i64) (zFM (i:Int) z.d s.M))))∧StH (zT y fs (i+1)).M (zT y fs (i+1)).O g.next (g.next+1) (H.set g.next (.map (kmD (D.int .i64) (zFM (i:Int) z.d s.M)))):=by
     rw[hS];refine⟨u,rfl,hOH.loc (Nat.le_refl _) fun j hj=>zE fun e=> ?_,hut,hEH.set (Nat.le_refl _) _,⟨zC _ _ _,by rw[zE (by omega)];exact hsH.1.2⟩,hsH.2⟩;have:=(hOH.tok hj).2;rw[e,hsH.1.1] at this;cases this
    clear hS quiet hOH hut hEH hsH
    repeat' first|simp only[go_sem,zS6, *]|apply bc<;>intro hc
    refine zQ (by kernel_rfl) ?_
    repeat' first|simp only[go_sem,zS6,zW, *]|apply bc<;>intro hc
  |false=>
   rw[b1] at hS hln;simp only[Bool.false_eq_true,if_false,Nat.add_zero] at hS hln;rw[←hln] at f8;clear hln hlb;cases b2:(f.kind==2) with
   |false=>
    rw[b2] at hS;have hres:=quiet hS;clear hS quiet hOH hut hEH hsH
    repeat' first|simp only[go_sem,zS6, *]|apply bc<;>intro hc
   |true=>
    rw[b2,if_pos rfl] at hS;have hcs:=zCS hOH.isSl (by omega) f.out H;have hlu:=yz hOH.isSl;obtain⟨u1,u2,_⟩:=zK hOH.isSl;cases b3:(s.outs.any fun z=>z==f.out) with
    |true=>
     rw[b3,if_pos rfl] at hS;have hres:=quiet hS;rw[b3] at hcs;clear hS quiet hOH hut hEH hsH
     repeat' first|simp only[go_sem,zS6, *]|apply bc<;>intro hc|(refine zA.mono hcs ?_;rintro r h ⟨hq,rfl⟩)
    |false=>
     rw[b3] at hS hcs;simp only[Bool.false_eq_true,if_false] at hS;have hlo:s.outs.length<y.own.length:=by
      rw[hS,List.length_append,List.length_singleton] at hob;omega
     have a3:=zAW hoa hlo;have hov:zDs y s.outs.length=y.own[s.outs.length]:=by unfold zDs;rw[List.getD_eq_getElem?_getD,List.getElem?_eq_getElem hlo];rfl
     rw[hov] at hS;clear hov hob;generalize y.own[s.outs.length]=nm at *
     have hone:=zEJ f.out;have fin:∀ (H2:Heap) (O2:KV),H2.next=H.next→wN H2 1 (yP s.outs) u→Ext g H2→StH s.M O2 g.next (g.next+1) H2→(zT y fs (i+1)).M=s.M→(zT y fs (i+1)).O=O2→(zT y fs (i+1)).outs=s.outs++ [f.out]→
       ∃d' h6,z6 Tryz.prog false H2.next 40 u (.sl 1 [[.str f.out]] .full) H2=some (d',h6)∧∃u',d'=u'∧wN h6 1 (yP (zT y fs (i+1)).outs) u'∧(∀j,wi u' j→g.next≤j)∧Ext g h6∧StH (zT y fs (i+1)).M (zT y fs (i+1)).O g.next (g.next+1) h6:=fun H2 O2 hn hO hE hs q1 q2 q3=>by
      obtain⟨d',h6,v1,v2,v3,v4,v5,v6,v7⟩:=hO.app4 (P:=Tryz.prog) (t:=40) (ys:=[[.str f.out]]) (x:= .sl 1 [[.str f.out]] .full) yj zHg zAh (by omega) (by simp) (.inr ⟨by simp,_,rfl⟩) (by rw[zq,zBe];unfold lim;simp;omega) (by rw[zq];unfold lim;simp;omega);have hE0:=hE.1;have t1:∀j,wi u j→j≠g.next∧j≠g.next+1:=fun j hj=>by
       have:=(hO.tok hj).2;exact⟨fun e=>(by rw[e,hs.1.1] at this;cases this),fun e=>(by rw[e,hs.1.2] at this;cases this)⟩
      refine⟨d',h6,v1,d',rfl,by rw[q3,zQF];exact v2,fun j hj=>by have:=v5 j hj;omega,⟨by omega,fun j hj=>by rw[v4 j (by omega) fun e=>by have:=hut j e;omega,hE.2 j hj]⟩,by rw[q1,q2];exact⟨⟨by rw[v4 _ hs.2.1 fun e=>(t1 _ e).1 rfl];exact hs.1.1,by rw[v4 _ hs.2.2 fun e=>(t1 _ e).2 rfl];exact hs.1.2⟩,by have:=hs.2.1;omega,by have:=hs.2.2;omega⟩⟩
     cases b4:(nm== []) with
     |true=>
      rw[b4] at hS;obtain⟨d',h6,v1,hres⟩:=fin H s.O rfl hOH hEH hsH (by rw[hS]) (by rw[hS];rfl) (by rw[hS]);clear hS quiet hOH hut hEH hsH fin
      repeat' first|simp only[go_sem,zS6, *]|apply bc<;>intro hc|(refine zA.mono hcs ?_;rintro r h ⟨hq,rfl⟩)
     |false=>
      rw[b4] at hS;obtain⟨H2,hH2,hn2,hO2,hE2,hs2',hr2⟩:∃H2:Heap,H.set (g.next+1) (.map (kvD (zEI f.out nm s.O)))=H2∧H2.next=H.next∧wN H2 1 (yP s.outs) u∧Ext g H2∧StH s.M (zEI f.out nm s.O) g.next (g.next+1) H2∧H2.at' n0=some (.row f.cells):=
       ⟨_,rfl,zt _ _ _,hOH.loc (Nat.le_refl _) fun j hj=>zE fun e=>(by have:=(hOH.tok hj).2;rw[e,hsH.1.2] at this;cases this),hEH.set (by omega) _,⟨⟨by rw[zE (by omega)];exact hsH.1.1,zC _ _ _⟩,hsH.2⟩,by rw[zE (by omega)];exact hrow⟩
      have hmu:yM Tryz.prog 149 (.map (g.next+1)) (.str f.out) (.str nm) H=some H2:=by rw[←hH2];exact zKy hsH.1.2 zPR zMB f.out nm
      obtain⟨d',h6,v1,hres⟩:=fin H2 _ hn2 hO2 hE2 hs2' (by rw[hS]) (by rw[hS];rfl) (by rw[hS]);clear hS quiet hOH hut hEH hsH fin hH2 hn2 hO2 hE2 hs2'
      repeat' first|simp only[go_sem,zS6, *]|apply bc<;>intro hc|(refine zA.mono hcs ?_;rintro r h ⟨hq,rfl⟩)
      refine zQ (by kernel_rfl) ?_
      repeat' first|simp only[go_sem,zS6,zW, *]|apply bc<;>intro hc
 ·clear hE hst;rintro fr h e1 ⟨f1,f5,f7,f8,f19,f20,f21,u,f9,hO,hut,hE,hst⟩;have hfin:Ext g h∧∃sc' m1 m2,D.iptr sc 0= .iptr sc' 0∧Stt c fs (alS fs y) (zT y fs fs.length).M (zT y fs fs.length).O sc' m1 m2∧StH (zT y fs fs.length).M (zT y fs fs.length).O m1 m2 h∧g.next≤m1∧g.next≤m2:=⟨hE,sc,g.next,g.next+1,rfl,hStt,hst,Nat.le_refl _,by omega⟩;clear hO hut hE hst hStt
  repeat' first|simp only[go_sem,zS6, *]|apply bc<;>intro hc
def zBY:List Fac→List (List UInt8)→List (List UInt8)
 | [],o=>o
 |f::fs,o=>if(f.kind==1)=true then zBY fs o else if(f.kind==2)=true then zBY fs (if(o.any fun z=>z==f.out)=true then o else o++ [f.out]) else zBY fs o
theorem zBk:∀ (l:List Fac) (f:Fac) (o:List (List UInt8)),zBY (l++ [f]) o=zBY [f] (zBY l o)
 | [],f,o=>rfl
 |g::l,f,o=>by
  by_cases h1:(g.kind==1)=true
  ·have e:∀m,zBY (g::m) o=zBY m o:=fun m=>by rw[zBY,if_pos h1]
   rw[List.cons_append,e,e,zBk l f]
  ·by_cases h2:(g.kind==2)=true
   ·have e:∀m,zBY (g::m) o=zBY m (if(o.any fun z=>z==g.out)=true then o else o++ [g.out]):=fun m=>by rw[zBY,if_neg h1,if_pos h2]
    rw[List.cons_append,e,e,zBk l f]
   ·have e:∀m,zBY (g::m) o=zBY m o:=fun m=>by rw[zBY,if_neg h1,if_neg h2]
    rw[List.cons_append,e,e,zBk l f]
theorem zEW {y:Cho} {fs:List Fac} :∀k,k≤fs.length→(zT y fs k).outs=zBY (fs.take k) []
 |0,_=>rfl
 |k+1,h=>by
  have hlt:k<fs.length:=by omega
  have ih:=zEW (y:=y) (fs:=fs) k (by omega);rw[List.take_succ_eq_append_getElem hlt,zBk,←ih,zBX hlt];simp only[zBY];split
  ·split<;>rfl
  ·split
   ·split<;>rfl
   ·rfl
theorem zFP {c:Cat} :∀ {l:List Fac} {t:List (List (List Trm))} {o:List (List UInt8)},(zG6 c l t o).2.2=0→(zG6 c l t o).1.length=t.length+(l.filter fun f=>f.kind==1).length∧(zG6 c l t o).2.1=zBY l o
 | [],t,o,_=>⟨rfl,rfl⟩
 |f::fs,t,o,h=>by
  rw[zG6] at h⊢;by_cases h1:(f.kind==1)=true
  ·rw[if_pos h1] at h⊢;by_cases h2:(zGi c f.e==0)=true
   ·rw[if_pos h2] at h⊢;obtain⟨a1,a2⟩:=zFP h;refine⟨?_,by rw[a2,zBY,if_pos h1]⟩;rw[a1,List.filter_cons_of_pos (by exact h1)];simp only[List.length_append,List.length_cons,List.length_nil];omega
   ·rw[if_neg h2] at h;exact absurd h (by simpa using h2)
  ·rw[if_neg h1] at h⊢;by_cases h2:(f.kind==2)=true
   ·rw[if_pos h2] at h⊢;obtain⟨a1,a2⟩:=zFP h;exact⟨by rw[a1,List.filter_cons_of_neg (by exact h1)],by rw[a2,zBY,if_neg h1,if_pos h2]⟩
   ·rw[if_neg h2] at h⊢;obtain⟨a1,a2⟩:=zFP h;exact⟨by rw[a1,List.filter_cons_of_neg (by exact h1)],by rw[a2,zBY,if_neg h1,if_neg h2]⟩
theorem zOw {c:Cat} {l:List Fac} (h:(wH c l).2=0):l.length≤256:=by
 unfold wH at h;split at h
 ·exact absurd h (by decide)
 ·split at h
  ·exact absurd h (by decide)
  ·rename_i q
   have:¬((l.length:Int)>256):=by simpa using q
   omega
structure ChoiceOk (c:Cat) (fs:List Fac) (y:Cho):Prop where
 case:(wH c fs).2=0
 lic:zD9 fs fs.length=y.ts.length
 outs:(zT y fs fs.length).outs.length=y.own.length
 ok:∀a∈y.ts,a.ts≠[]→a.Ok
theorem zNS {c:Cat} {fs:List Fac} {y:Cho} {p:Bool} (h:zl c fs y p=0) (ysm:y.Sm):ChoiceOk c fs y:=by
 unfold zl at h;split at h
 ·rename_i q;rw[h] at q;exact absurd q (by decide)
 ·rename_i q1;have v0:(zI c fs).2.2=0:=by simpa using q1
  split at h
  ·exact absurd h (by decide)
  ·rename_i q2;split at h
   ·rename_i q;rw[h] at q;exact absurd q (by decide)
   ·rename_i q3;have t0:zDn (zBu (zI c fs).1 y.ts p) y.ts.length=0:=by simpa using q3
    have hv:=zBV (c:=c) (l:=fs);unfold zI at v0 q2 t0 hv;by_cases qc:(!((wH c fs).2==0))=true
    ·rw[if_pos qc] at v0;rw[v0] at qc;exact absurd qc (by decide)
    ·rw[if_neg qc] at v0 q2 t0 hv;obtain⟨a1,a2⟩:=zFP v0;have hl:(zG6 c fs [] []).1.length=y.ts.length∧(zG6 c fs [] []).2.1.length=y.own.length:=by
      simp only[Bool.or_eq_true,Bool.not_eq_true',beq_eq_false_iff_ne,ne_eq,not_or,Decidable.not_not] at q2;omega
     refine⟨by simpa using qc,?_,?_,fun a ha hne=> ?_⟩
     ·rw[←hl.1,a1];simp[zD9]
     ·rw[zEW _ (Nat.le_refl _),List.take_length,←a2];exact hl.2
     ·obtain⟨i,hi,rfl⟩:=List.mem_iff_getElem.1 ha;have:=zBj t0 i hi;unfold zBu at this;rw[List.getElem?_eq_getElem hi] at this;simp only at this;have hn:(((y.ts[i].ts.length:Int))==0)=false:=by
       have:=List.length_pos_iff.2 hne;simp;omega
      rw[hn,Bool.and_false,if_neg (by decide)] at this;split at this
      ·exact absurd this (by decide)
      ·rename_i q;have hany:((zG6 c fs [] []).1.getD i []).any (fun b=>zM8 y.ts[i].ts b)=true:=by simpa using q
       obtain⟨b,hb,he⟩:=List.any_eq_true.1 hany;have e:=(zFK _ _).1 he;refine⟨(ysm.ts _ ha).sl,hne,?_⟩;rw[e];rw[List.getD_eq_getElem?_getD] at hb;cases hq:(zG6 c fs [] []).1[i]? with
       |none=>rw[hq] at hb;cases hb
       |some z=>
        rw[hq] at hb;have:=((hv z (List.mem_of_getElem? hq)).2.ts b hb).2;omega
def zXL (c:Cat) (fs:List Fac) (y:Cho):List (List D):=zRl c fs (alS fs y) (zT y fs fs.length).O 6
def zF2 (c:Cat) (fs:List Fac) (y:Cho):Int:=
 if(!(zl c fs y true==0))=true then zl c fs y true else if decide (((zXL c fs y).length:Int)>1024)=true then 10 else 0
structure CIn (c:Cat) (fs:List Fac) (y:Cho) (d x yd:D):Prop where
 cat:qX c d
 sm:c.Sm
 x:zX 12 (zIH fs) x
 len:fs.length≤1048576
 few:fs.length≤16∨256<fs.length
 ok:∀f∈fs,f.Ok
 cho:zai y yd
 ysm:y.Sm
section
variable {c:Cat} {fs:List Fac} {y:Cho} {d x yd:D} (I:CIn c fs y d x yd)
include I
theorem CIn.check (p:Bool) (g:Heap):zA Tryz.prog 39 [d,x,yd, .bool p] g fun r h'=>h'=g∧r= .int .i64 (zl c fs y p):=zLN I.cat I.sm I.x I.len I.ok I.cho I.ysm p g
theorem CIn.n16 {p:Bool} (h:zl c fs y p=0):fs.length≤16:=by
 have:=zOw (zNS h I.ysm).case;rcases I.few with q|q
 ·exact q
 ·omega
theorem CIn.start {p:Bool} (h:zl c fs y p=0) (g:Heap):zA Tryz.prog 40 [d,x,yd] g fun r h'=>Ext g h'∧∃sc m1 m2,r= .iptr sc 0∧Stt c fs (alS fs y) (zT y fs fs.length).M (zT y fs fs.length).O sc m1 m2∧StH (zT y fs fs.length).M (zT y fs fs.length).O m1 m2 h'∧g.next≤m1∧g.next≤m2:=by
 have h1:=I.n16 h;obtain⟨_,k1,k2,k3⟩:=zNS h I.ysm;exact za6 I.cat I.sm I.x (by omega) I.ok I.cho I.ysm k3 (by omega) (by omega) g
end
theorem zU3 {xs:List (List D)} {l:D} (hp:∀x∈xs,qC x) (hf:Fin 2 xs l) (n:Nat):yI l=l∧below n l:=by
 rcases hf with⟨rfl,_⟩ |rfl
 ·exact⟨rfl,trivial⟩
 ·have:=yO (sz:=2) hp .no;exact⟨this.1,zy (Nat.zero_le _) _ this.2⟩
set_option maxHeartbeats 4000000 in
theorem zIg {c:Cat} {fs:List Fac} {y:Cho} {d x yd:D} (I:CIn c fs y d x yd) (g:Heap):
  zA Tryz.prog 12 [d,x,yd] g fun r h'=>h'=g∧∃l,r= .tuple [l, .int .i64 (zF2 c fs y)]∧(zF2 c fs y=0→Fin 2 (zXL c fs y) l)∧(zF2 c fs y≠0→l= .nilsl):=by
 refine zA.pure (by kernel_rfl) fun hok'=>zA.strip ?_;refine zA.post fun Q hQ=> ?_;have hcc:=I.check true;have hst:=fun h=>I.start (p:=true) h;have h16:=fun h=>I.n16 (p:=true) h;obtain⟨a,b,e,p,rfl,_⟩:=I.cat;obtain⟨ta,oa,rfl,_⟩:=I.cho;obtain⟨x1,x2,_⟩:=zK I.x;have hv4:zR true 4 [a,b,e,p] 0=some (.agg [a,b,e,p]):=zB rfl (by omega);have hv2:zR true 2 [ta,oa] 0=some (.agg [ta,oa]):=zB rfl (by omega);have hQn:∀h',Ext g h'→zF2 c fs y≠0→Q (.tuple [.nilsl, .int .i64 (zF2 c fs y)]) h':=fun h' hE hne=>hQ _ _ ⟨hE,⟨trivial,trivial,trivial⟩,_,rfl,fun e=>absurd e hne,fun _=>rfl⟩
 refine zA.of_fn (g:=zV7) mix Tryz.func12 zjz rfl rfl ?_;simp only[Tryz.f12,gJ];cases he:(zl c fs y true==0) with
 |false=>
  have hne:zl c fs y true≠0:=by simpa using he
  have hve:zF2 c fs y=zl c fs y true:=by unfold zF2;rw[he];rfl
  have hfin:=hQn g (Ext.refl g) (by rw[hve];exact hne);rw[hve] at hfin;clear hQn hve hQ hst h16 hne
  repeat' first|simp only[go_sem,zdg, *]|apply bc<;>intro hc|(refine zA.mono (hcc _) ?_;rintro r h ⟨hq,rfl⟩)
 |true=>
  have h0:zl c fs y true=0:=by simpa using he
  have hve:zF2 c fs y=if decide (((zXL c fs y).length:Int)>1024)=true then 10 else 0:=by unfold zF2;rw[he];rfl
  have hs:=hst h0;have hn:=h16 h0;rw[h0] at hcc he;clear hst h16 h0
  repeat' first|simp only[go_sem,zdg, *]|apply bc<;>intro hc|(refine zA.mono (hcc _) ?_;rintro r h ⟨hq,rfl⟩)
  subst hq
  rename Heap=>g
  refine(hs _).mono ?_;rintro r h1 ⟨hE,sc,m1,m2,rfl,hS,hH,_,_⟩
  repeat' first|simp only[go_sem,zdg, *]|apply bc<;>intro hc
  refine(zfT hS hn hH).mono ?_;rintro r h2 ⟨hq,hF⟩;subst hq;have hl:∀h,zCF Tryz.prog 45 r h=some (.int .i64 ((zXL c fs y).length:Int)):=fun h=>yY hF.isSl Tryz.underlying45;obtain⟨r1,r2,_⟩:=zK hF.isSl;cases hd:decide (((zXL c fs y).length:Int)>1024) with
  |true=>
   rw[hd] at hve;have hfin:=hQn _ hE (by rw[hve];decide);rw[hve,if_pos rfl] at hfin;clear hQn hve hQ hF hs
   repeat' first|simp only[go_sem,zdg, *]|apply bc<;>intro hc
  |false=>
   rw[hd] at hve;obtain⟨f1,f2⟩:=zU3 zJ6 hF g.next;have hfin:Q (.tuple [r, .int .i64 0]) h2:=hQ _ _ ⟨hE,by
    simp only[yI,yA,below,zb,f1];exact⟨f2,trivial,trivial⟩,r,by simp only[yI,yA,f1,hve];rfl,fun _=>hF,fun q=>absurd (by rw[hve];rfl) q⟩
   clear hQn hve hQ hF hs f1 f2
   repeat' first|simp only[go_sem,zdg, *]|apply bc<;>intro hc
def Vio.cells (v:Vio):List D:=[.int .i64 v.row, .sl 1 (wT v.facts) .no]
def vcs (l:List Vio):List (List D):=l.map Vio.cells
theorem zF3 (l:List Vio):(vcs l).length=l.length:=List.length_map ..
theorem za7 {l:List Vio} {d:D} (hd:zX 2 (vcs l) d) (h:Heap):zCF Tryz.prog 45 d h=some (.int .i64 l.length):=by rw[yY hd Tryz.underlying45,zF3]
theorem zfV {l:List Vio} {d:D} (hd:zX 2 (vcs l) d) {i:Nat} (hi:i<l.length):zS Tryz.prog 45 d (.int .i64 (i:Int))=some (.iptr l[i].cells 0):=zY hd wM zB6 (by simp[vcs,hi])
def zRn (c:Cat) (fs:List Fac) (al:Nat→Option Alt) (O:KV) (k:Nat):List Vio:=(List.range k).flatMap fun i:Nat=>(zCo c fs al O i).map fun l=>⟨(i:Int),l⟩
def zCq (c:Cat) (fs:List Fac) (y:Cho):List Vio:=zRn c fs (alS fs y) (zT y fs fs.length).O 6
theorem zNT {c:Cat} {fs:List Fac} {al:Nat→Option Alt} {O:KV} {k:Nat} :zRl c fs al O k=vcs (zRn c fs al O k):=by
 unfold zRl zRn vcs vbs;rw[List.map_flatMap];congr 1
 funext i
 rw[List.map_map];rfl
theorem zIh {c:Cat} {fs:List Fac} {y:Cho} :zXL c fs y=vcs (zCq c fs y):=zNT
theorem zRo {c:Cat} {fs:List Fac} {al:Nat→Option Alt} {O:KV} (i:Nat):∀l∈zCo c fs al O i,l.length≤5:=fun l hl=>by
 unfold zCo at hl;have h2:=zDf _ _ hl;obtain⟨z,hz,rfl⟩:=List.mem_map.1 (zFt.1 h2);exact Nat.le_trans (zNN z) (zNO i z hz)
theorem zQg {c:Cat} {fs:List Fac} {y:Cho} :∀v∈zCq c fs y,v.Is v.cells:=fun v hv=>by
 obtain⟨i,_,h⟩:=List.mem_flatMap.1 hv;obtain⟨l,hl,rfl⟩:=List.mem_map.1 h;have:=zRo i l hl;exact⟨_,rfl,zX.mk .no,by show l.length≤_;omega⟩
theorem zNU {l:List Vio} {d:D} (hd:zX 2 (vcs l) d) (hl:l.length≤1073741824) {f:FuncId} {cap:List D} {p:Vio→Bool} {g:Heap} (hp:∀s∈l,zA Tryz.prog f ([]++ [.agg s.cells]++cap) g fun r h'=>h'=g∧r= .bool (p s)):
  zA Tryz.prog 46 [d, .fn (.func f) [] cap] g fun r h'=>h'=g∧r= .int .i64 (zLb p l):=by
 have hlen:=za7 hd;have hv2:∀a b:D,zR true 2 [a,b] 0=some (.agg [a,b]):=fun a b=>zB rfl (by omega);refine zA.of_fn (g:=zVt) mix Tryz.func46 zji rfl rfl ?_;simp only[Tryz.f46,gJ]
 repeat' first|simp only[go_sem,zdB, *]|apply bc<;>intro hc
 refine zF (fun i fr h=>fr 1= .fn (.func f) [] cap∧fr 0=d∧fr 6=d∧fr 7= .int .i64 (l.length:Int)∧fr 8= .int .i64 (i:Int)∧h=g∧∀j (hj:j<l.length),j<i→p l[j]=false) l.length hl ?_ ?_ ?_
 ·simp only[go_sem,zdB,true_and,and_true,Int.ofNat_zero];exact fun j hj h0=>by omega
 ·rintro i fr h hlt e1 ew ⟨f1,f0,f6,f7,f8,rfl,hj⟩;have a1:=zfV hd hlt;have hq:=hp _ (List.getElem_mem hlt);simp only[List.nil_append,List.cons_append,Vio.cells] at hq;simp only[Vio.cells] at a1;cases hb:p l[i] with
  |true=>
   have hx:=zCW hlt hj hb;rw[hb] at hq;clear hj hp hd
   repeat' first|simp only[go_sem,zdB, *]|apply bc<;>intro hc|(refine zA.mono hq ?_;rintro r h ⟨rfl,rfl⟩)
  |false=>
   have hn:=yk (p:=p) hlt hj hb;rw[hb] at hq;clear hj hp hd
   repeat' first|simp only[go_sem,zdB, *]|apply bc<;>intro hc|(refine zA.mono hq ?_;rintro r h ⟨rfl,rfl⟩)
   exact hn
 ·rintro fr h e1 ⟨f1,f0,f6,f7,f8,rfl,hj⟩;have hx:=zCX (p:=p) fun j hj'=>hj j hj' hj';clear hj hp hd
  repeat' first|simp only[go_sem,zdB, *]|apply bc<;>intro hc
theorem zDS {l:List Vio} {d:D} (hd:zX 2 (vcs l) d) (hl:l.length≤1073741824) {f:FuncId} {cap:List D} {p:Vio→Bool} {g:Heap} (hp:∀s∈l,zA Tryz.prog f ([]++ [.agg s.cells]++cap) g fun r h'=>h'=g∧r= .bool (p s)):
  zA Tryz.prog 18 [d, .fn (.func f) [] cap] g fun r h'=>h'=g∧r= .bool (l.any p):=by
 have hix:=zNU hd hl hp;have hge:=zC9 (l:=l) (p:=p);refine zA.of_fn (g:=zV8) mix Tryz.func18 zj0 rfl rfl ?_;simp only[Tryz.f18,gJ]
 repeat' first|simp only[go_sem,zkx, *]|apply bc<;>intro hc|(refine zA.mono hix ?_;rintro r h ⟨rfl,rfl⟩)
theorem zXM {v w:Vio} {cv:List D} (hv:v.Is cv) (hw:w.Is w.cells) (g:Heap):zA Tryz.prog 44 [.agg w.cells, .iptr cv 0] g fun r h'=>h'=g∧r= .bool (zNK v w==0):=by
 have hc:=zUv hv hw;have h1:=Vio.Is.two hv;have h2:=Vio.Is.two hw;refine zA.of_fn (g:=zWL) mix Tryz.func44 zkF rfl rfl ?_;simp only[Tryz.f44,gJ]
 repeat' first|simp only[go_sem,zlF, *]|apply bc<;>intro hc|(refine zA.mono (hc _) ?_;rintro r h ⟨rfl,rfl⟩)
def zDT (c:Cat) (fs:List Fac) (y:Cho) (v:Vio):Int:=
 if(!(zl c fs y true==0))=true then zl c fs y true else if(!((zCq c fs y).any fun w=>zNK v w==0))=true then 18 else 0
set_option maxHeartbeats 4000000 in
theorem zRp {c:Cat} {fs:List Fac} {y:Cho} {d x yd:D} (I:CIn c fs y d x yd) {v:Vio} {cv:List D} (hv:v.Is cv) (g:Heap):
  zA Tryz.prog 17 [d,x,yd, .agg cv] g fun r h'=>h'=g∧r= .int .i64 (zDT c fs y v):=by
 refine zA.pure (by kernel_rfl) fun hok'=>zA.strip ?_;refine zA.post fun Q hQ=> ?_;have hcc:=I.check true;have hst:=fun h=>I.start (p:=true) h;have h16:=fun h=>I.n16 (p:=true) h;obtain⟨a,b,e,p,rfl,_⟩:=I.cat;obtain⟨ta,oa,rfl,_⟩:=I.cho;obtain⟨x1,x2,_⟩:=zK I.x;have hv4:zR true 4 [a,b,e,p] 0=some (.agg [a,b,e,p]):=zB rfl (by omega);have hv2:zR true 2 [ta,oa] 0=some (.agg [ta,oa]):=zB rfl (by omega);have hQn:∀h',Ext g h'→Q (.int .i64 (zDT c fs y v)) h':=fun h' hE=>hQ _ _ ⟨hE,trivial,rfl⟩;refine zA.of_fn (g:=zV0) mix Tryz.func17 zjq rfl rfl ?_;simp only[Tryz.f17,gJ];cases he:(zl c fs y true==0) with
 |false=>
  have hve:zDT c fs y v=zl c fs y true:=by unfold zDT;rw[he];rfl
  have hfin:=hQn g (Ext.refl g);rw[hve] at hfin;clear hQn hve hQ hst h16
  repeat' first|simp only[go_sem,zdS, *]|apply bc<;>intro hc|(refine zA.mono (hcc _) ?_;rintro r h ⟨hq,rfl⟩)
 |true=>
  have h0:zl c fs y true=0:=by simpa using he
  have hve:zDT c fs y v=if(!((zCq c fs y).any fun w=>zNK v w==0))=true then 18 else 0:=by unfold zDT;rw[he];rfl
  have hs:=hst h0;have hn:=h16 h0;rw[h0] at hcc he;clear hst h16 h0
  repeat' first|simp only[go_sem,zdS, *]|apply bc<;>intro hc|(refine zA.mono (hcc _) ?_;rintro r h ⟨hq,rfl⟩)
  subst hq
  rename Heap=>g
  refine(hs _).mono ?_;rintro r h1 ⟨hE,sc,m1,m2,rfl,hS,hH,_,_⟩
  repeat' first|simp only[go_sem,zdS, *]|apply bc<;>intro hc
  refine(zfT hS hn hH).mono ?_;rintro r h2 ⟨hq,hF⟩;subst hq;have hF2:Fin 2 (vcs (zCq c fs y)) r:=by rw[←zIh];exact hF
  have hll:(zCq c fs y).length≤1073741824:=by
   have:=zQf (c:=c) (fs:=fs) (al:=alS fs y) (O:=(zT y fs fs.length).O) hn 6 (by omega);rw[zNT,zF3] at this;show(zRn c fs (alS fs y) (zT y fs fs.length).O 6).length≤_;omega
  have hct:=zDS (f:=44) (cap:=[.iptr cv 0]) (p:=fun w=>zNK v w==0) (g:=h2) hF2.isSl hll fun w hw=>zXM hv (zQg w hw) h2;obtain⟨r1,r2,_⟩:=zK hF2.isSl;have hfin:=hQn _ hE;rw[hve] at hfin;clear hQn hve hQ hF hF2 hs hE hS hH;cases hd:(zCq c fs y).any (fun w=>zNK v w==0) with
  |true=>
   rw[hd] at hct hfin
   repeat' first|simp only[go_sem,zdS, *]|apply bc<;>intro hc|(refine zA.mono hct ?_;rintro r h ⟨hq,rfl⟩)
   subst hq;exact hfin
  |false=>
   rw[hd] at hct hfin
   repeat' first|simp only[go_sem,zdS, *]|apply bc<;>intro hc|(refine zA.mono hct ?_;rintro r h ⟨hq,rfl⟩)
   subst hq;exact hfin
theorem zDj (a b:Vio):zNK a b=zMv (yp a.row b.row) (qj a.facts b.facts):=by
 unfold zNK zMv;simp only[orL];split
 ·split
  ·rename_i q;exact q.symm
  ·rfl
 ·rfl
theorem za8:QC zNK:=by
 have:=(zIP.key Vio.row).lex (zOs.key Vio.facts);exact⟨fun x y=>by rw[zDj,zDj];exact this.anti x y,fun x y z=>by rw[zDj,zDj,zDj];exact this.trans x y z⟩
theorem za9 (a b:Vio) (h:zNK a b=0):a=b:=by
 rw[zDj,zMv] at h;split at h
 ·rename_i q;have h1:=zUZ _ _ q;have h2:=zOt _ _ h;cases a;cases b;simp only at h1 h2;rw[h1,h2]
 ·rename_i q;exact absurd h q
theorem zQh (a b:Vio):(zNK a b==0)=true↔a=b:=by
 constructor
 ·intro h;exact za9 a b (by simpa using h)
 ·rintro rfl;simp[za8.refl]
section
variable {c:Cat} {fs:List Fac} {al:Nat→Option Alt} {O:KV}
theorem zNV {i:Nat} {l:List Int} :l∈zCo c fs al O i↔∃z∈zEV c fs al O i,zEU z=l:=by
 unfold zCo;rw[zaS zOt,zFt,List.mem_map]
theorem zU4 {k:Nat} {v:Vio} :v∈zRn c fs al O k↔∃i:Nat,i<k∧v.row=(i:Int)∧v.facts∈zCo c fs al O i:=by
 unfold zRn;rw[List.mem_flatMap];constructor
 ·rintro⟨i,hi,h⟩;obtain⟨l,hl,rfl⟩:=List.mem_map.1 h;exact⟨i,List.mem_range.1 hi,rfl,hl⟩
 ·rintro⟨i,hi,h1,h2⟩;refine⟨i,List.mem_range.2 hi,List.mem_map.2 ⟨v.facts,h2,?_⟩⟩;cases v;simp only at h1;rw[h1]
end
theorem zU5 {c:Cat} {fs:List Fac} {y:Cho} {v:Vio} :v∈zCq c fs y↔∃i:Nat,i<6∧v.row=(i:Int)∧∃z∈zEV c fs (alS fs y) (zT y fs fs.length).O i,zEU z=v.facts:=by
 unfold zCq;rw[zU4];constructor
 ·rintro⟨i,h1,h2,h3⟩;exact⟨i,h1,h2,zNV.1 h3⟩
 ·rintro⟨i,h1,h2,h3⟩;exact⟨i,h1,h2,zNV.2 h3⟩
theorem zRq {c:Cat} {fs:List Fac} {y:Cho} (h:zl c fs y true=0) (v:Vio):zDT c fs y v=0↔v∈zCq c fs y:=by
 unfold zDT;rw[h];simp only[beq_self_eq_true,Bool.not_true,Bool.false_eq_true,if_false];constructor
 ·intro e;split at e
  ·exact absurd e (by decide)
  ·rename_i q;have q:(zCq c fs y).any (fun w=>zNK v w==0)=true:=by simpa using q
   obtain⟨w,hw,e⟩:=List.any_eq_true.1 q;rw[(zQh v w).1 e];exact hw
 ·intro hm;rw[if_neg]
  have:(zCq c fs y).any (fun w=>zNK v w==0)=true:=List.any_eq_true.2 ⟨v,hm,(zQh v v).2 rfl⟩;rw[this];decide
theorem zGT {c:Cat} {fs:List Fac} {y:Cho} (h:zl c fs y false=0):zl c fs y true=0:=by
 unfold zl at h⊢;split at h
 ·rename_i q;rw[h] at q;exact absurd q (by decide)
 ·rename_i q1;rw[if_neg q1];split at h
  ·exact absurd h (by decide)
  ·rename_i q2;rw[if_neg q2];split at h
   ·rename_i q;rw[h] at q;exact absurd q (by decide)
   ·rename_i q3;have t0:zDn (zBu (zI c fs).1 y.ts false) y.ts.length=0:=by simpa using q3
    have t1:zDn (zBu (zI c fs).1 y.ts true) y.ts.length=0:=yr fun i hi=>by
     have:=zBj t0 i hi;unfold zBu at this⊢;rw[List.getElem?_eq_getElem hi] at this⊢;simp only[Bool.false_and,Bool.false_eq_true,if_false,Bool.true_and] at this⊢;split
     ·rfl
     ·exact this
    rw[t1];simp only[beq_self_eq_true,Bool.not_true,Bool.false_eq_true,if_false];refine yr fun i hi=> ?_;have:=zBj h i hi;unfold zRx at this⊢;rw[List.getElem?_eq_getElem hi] at this⊢;simp only[Bool.false_and,Bool.false_eq_true,if_false,Bool.true_and] at this⊢;split
    ·rfl
    ·exact this
def zG8 (c:Cat) (l:List Fac) (n:Nat):Cho:=⟨(zW3 c l n).map mkA,zW4 c l n⟩
theorem zfW {c:Cat} {l:List Fac} {n:Int} (h:zCk c l n=0):(zI c l).2.2=0∧0≤n∧n.toNat<zLP c l:=by
 unfold zCk at h;split at h
 ·rename_i q;rw[h] at q;exact absurd q (by decide)
 ·rename_i q1;split at h
  ·exact absurd h (by decide)
  ·rename_i q2;have hc:wn c l=0:=by simpa using q1
   have hv:(zI c l).2.2=0:=by
    unfold wn at hc;split at hc
    ·exact hc
    ·rename_i q;simpa using q
   simp only[Bool.or_eq_true,decide_eq_true_eq,not_or] at q2;exact⟨hv,by omega,by omega⟩
theorem zRr {c:Cat} {l:List Fac} {n:Int} (h:zCk c l n=0):zl c l (zG8 c l n.toNat) false=0:=by
 obtain⟨hv,h0,hn⟩:=zfW h;have hpos:=zQa hn;have hd:=zOo (l:=zDp c (zI c l).1 (zI c l).2.1) (n:=n.toNat) hpos;have hT:(zG8 c l n.toNat).ts.length=(zI c l).1.length:=by simp[zG8,zW3,ym]
 have hO:(zG8 c l n.toNat).own.length=(zI c l).2.1.length:=by simp[zG8,zW4,zAl]
 have hrl:(zDp c (zI c l).1 (zI c l).2.1).length=(zI c l).1.length+(zI c l).2.1.length:=by simp[zDp]
 unfold zl;rw[hv,hT,hO];simp only[beq_self_eq_true,Bool.not_true,Bool.false_eq_true,if_false,Bool.or_self];have t1:zDn (zBu (zI c l).1 (zG8 c l n.toNat).ts false) (zI c l).1.length=0:=yr fun i hi=>by
  unfold zBu;have hi2:i<(zG8 c l n.toNat).ts.length:=by rw[hT];exact hi
  rw[List.getElem?_eq_getElem hi2];have hdi:=hd i (by omega);have hri:(zDp c (zI c l).1 (zI c l).2.1)[i]'(by omega)=(zI c l).1[i].length:=by
   simp only[zDp];rw[List.getElem_append_left (by simpa using hi),List.getElem_map]
  rw[hri] at hdi;have hts:(zG8 c l n.toNat).ts[i].ts=(zI c l).1[i][(zEY (zDp c (zI c l).1 (zI c l).2.1) n.toNat).1.getD i 0]:=by
   simp only[zG8,zW3,ym,List.getElem_map,List.getElem_range,mkA];rw[List.getD_eq_getElem?_getD (l:=(zI c l).1),List.getElem?_eq_getElem hi,Option.getD_some,List.getD_eq_getElem?_getD (l:=(zI c l).1[i]),List.getElem?_eq_getElem hdi,Option.getD_some]
  simp only[Bool.false_and,Bool.false_eq_true,if_false];rw[if_neg]
  have:((zI c l).1.getD i []).any (fun b=>zM8 (zG8 c l n.toNat).ts[i].ts b)=true:=by
   rw[List.getD_eq_getElem?_getD,List.getElem?_eq_getElem hi,Option.getD_some];exact List.any_eq_true.2 ⟨_,List.getElem_mem hdi,(zFK _ _).2 hts⟩
  rw[this];decide
 rw[t1];simp only[beq_self_eq_true,Bool.not_true,Bool.false_eq_true,if_false];refine yr fun i hi=> ?_;unfold zRx;have hi2:i<(zG8 c l n.toNat).own.length:=by rw[hO];exact hi
 rw[List.getElem?_eq_getElem hi2];have hdi:=hd ((zI c l).1.length+i) (by omega);have hri:(zDp c (zI c l).1 (zI c l).2.1)[(zI c l).1.length+i]'(by omega)=c.ls.length:=by
  simp only[zDp];rw[List.getElem_append_right (by simp)];simp
 rw[hri] at hdi;have hts:(zG8 c l n.toNat).own[i]=c.ls[(zEY (zDp c (zI c l).1 (zI c l).2.1) n.toNat).1.getD ((zI c l).1.length+i) 0].name:=by
  simp only[zG8,zW4,zAl,List.getElem_map,List.getElem_range];rw[List.getD_eq_getElem?_getD (l:=c.ls.map Lic.name),List.getElem?_map,List.getElem?_eq_getElem hdi];rfl
 simp only[Bool.false_and,Bool.false_eq_true,if_false];rw[if_neg]
 have:(c.ls.any fun x=>x.name==(zG8 c l n.toNat).own[i])=true:=List.any_eq_true.2 ⟨_,List.getElem_mem hdi,by rw[hts];simp⟩;rw[this];decide
end Go.V
