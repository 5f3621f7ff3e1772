/- Library functions in the closed calls, and the function awake of chapter 40 returns true, part 1. No condition. -/
import Derived.Test.YtmhkjfajejaniaaGreatDoorW24
import Derived.Test.YtmhkjfajejaniaaGreatDoorW19
import Derived.Test.YtmhkjfajejaniaaGreatDoorW25
import Derived.Test.YtmhkjfajejaniaaGreatDoorW26
import Derived.Test.YtmhkjfajejaniaaGreatDoorW27
import Derived.Test.YtmhkjfajejaniaaGreatDoorW28
import Derived.Test.YtmhkjfajejaniaaGreatDoorW04
import Derived.Test.YtmhkjfajejaniaaGreatDoorW20
set_option linter.all false
namespace Go.V
open Go.Proofs
theorem qD:zWR Tryz.prog zDb:=fun g args h r he=>by
 unfold zDb at he;split at he
 ·rename_i hg;have e:g=130:=Nat.eq_of_beq_eq_true hg;subst e;exact zGv he fun d hd=>zHr (by kernel_rfl) (fun s c w=>Tryz.strings_Count_one s c w) hd h
 ·skip
  split at he
  ·rename_i hg;have e:g=131:=Nat.eq_of_beq_eq_true hg;subst e;exact zGv he fun d hd=>zEF (by kernel_rfl) (fun s c w=>Tryz.strings_Index_one s c w) hd h
  ·skip
   split at he
   ·rename_i hg;have e:g=188:=Nat.eq_of_beq_eq_true hg;subst e;exact zGv he fun d hd=>zEF (by kernel_rfl) (fun s c w=>Tryz.stringslite_Index_one s c w) hd h
   ·skip
    split at he
    ·rename_i hg;have e:g=189:=Nat.eq_of_beq_eq_true hg;subst e;exact zGv he fun d hd=>zJi (by kernel_rfl) (fun s c w h0 h1 h2 h3=>zQA Tryz.lays160 (by kernel_rfl) s c w h0 h1 h2 h3) hd h
    ·skip
     cases he
set_option maxRecDepth 100000
theorem k0:zZ Tryz.prog m0:=trivial
theorem k1:zZ Tryz.prog m1:=zZ.add mix qB qD k0 rfl rfl r1
theorem k2:zZ Tryz.prog m2:=zZ.add mix qB qD k1 rfl rfl r2
theorem k3:zZ Tryz.prog m3:=zZ.add mix qB qD k2 rfl rfl r3
theorem k4:zZ Tryz.prog m4:=zZ.add mix qB qD k3 rfl rfl r4
theorem k5:zZ Tryz.prog m5:=zZ.add mix qB qD k4 rfl rfl r5
theorem k6:zZ Tryz.prog m6:=zZ.add mix qB qD k5 rfl rfl r6
theorem k7:zZ Tryz.prog m7:=zZ.add mix qB qD k6 rfl rfl r7
theorem k8:zZ Tryz.prog m8:=zZ.add mix qB qD k7 rfl rfl r8
theorem k9:zZ Tryz.prog m9:=zZ.add mix qB qD k8 rfl rfl r9
theorem k10:zZ Tryz.prog m10:=zZ.add mix qB qD k9 rfl rfl r10
theorem k11:zZ Tryz.prog m11:=zZ.add mix qB qD k10 rfl rfl r11
theorem k12:zZ Tryz.prog m12:=zZ.add mix qB qD k11 rfl rfl r12
theorem k13:zZ Tryz.prog m13:=zZ.add mix qB qD k12 rfl rfl r13
theorem k14:zZ Tryz.prog m14:=zZ.add mix qB qD k13 rfl rfl r14
theorem k15:zZ Tryz.prog m15:=zZ.add mix qB qD k14 rfl rfl r15
theorem k16:zZ Tryz.prog m16:=zZ.add mix qB qD k15 rfl rfl r16
theorem k17:zZ Tryz.prog m17:=zZ.add mix qB qD k16 rfl rfl r17
theorem k18:zZ Tryz.prog m18:=zZ.add mix qB qD k17 rfl rfl r18
theorem k19:zZ Tryz.prog m19:=zZ.add mix qB qD k18 rfl rfl r19
theorem k20:zZ Tryz.prog m20:=zZ.add mix qB qD k19 rfl rfl r20
theorem k21:zZ Tryz.prog m21:=zZ.add mix qB qD k20 rfl rfl r21
theorem k22:zZ Tryz.prog m22:=zZ.add mix qB qD k21 rfl rfl r22
theorem k23:zZ Tryz.prog m23:=zZ.add mix qB qD k22 rfl rfl r23
theorem k24:zZ Tryz.prog m24:=zZ.add mix qB qD k23 rfl rfl r24
theorem k25:zZ Tryz.prog m25:=zZ.add mix qB qD k24 rfl rfl r25
theorem k26:zZ Tryz.prog m26:=zZ.add mix qB qD k25 rfl rfl r26
theorem k27:zZ Tryz.prog m27:=zZ.add mix qB qD k26 rfl rfl r27
theorem k28:zZ Tryz.prog m28:=zZ.add mix qB qD k27 rfl rfl r28
theorem k29:zZ Tryz.prog m29:=zZ.add mix qB qD k28 rfl rfl r29
theorem k30:zZ Tryz.prog m30:=zZ.add mix qB qD k29 rfl rfl r30
theorem k31:zZ Tryz.prog m31:=zZ.add mix qB qD k30 rfl rfl r31
theorem k32:zZ Tryz.prog m32:=zZ.add mix qB qD k31 rfl rfl r32
theorem zGe (h:Heap):zA Tryz.prog 8 [] h fun a b=>a= .bool true∧b=h:=k32.1 h
open Go.RowKit (Below)
section
variable {w0:Base} {G:List Nat} {M:Imm} {ρ:Ren} {h:Heap} {w:World} {id:Nat} {cs:List D}
theorem Sim.freeze (k3:Sim w0 G M ρ h w) (k6:h.at' id=some (.row cs)):∃M' l,MLe M M'∧ρ id=some l∧zBC M' ρ cs l.blk 0∧Sim w0 G M' ρ (h.frz id cs) w:=by
 obtain⟨l,g1,g2,hm,c,ty,g3,g4,g5,g6⟩:=k3.live id _ k6;have hle:MLe M (zA7 M l.blk 0 (c.toList.take cs.length)):=zBn fun o _=>hm o;have hc:zBC (zA7 M l.blk 0 (c.toList.take cs.length)) ρ cs l.blk 0:=yT fun i d hi=>by
  obtain⟨q1,u,q2,q3⟩:=g6 i d hi;have hlt:=(List.getElem?_eq_some_iff.1 hi).1;refine⟨q1,u,?_,yt hle (RLe.refl _) _ _ q3⟩;unfold zA7;rw[if_pos ⟨rfl,by omega,by simp;omega⟩];simp only[Nat.zero_add,Nat.sub_zero,List.getElem?_take,if_pos hlt];simpa using q2
 refine⟨zA7 M l.blk 0 (c.toList.take cs.length),l,hle,g1,hc,?_⟩;refine { below:=k3.below,imm:=fun b o u e=> ?_,live:=fun i ob e=> ?_,apart:=fun i j oi oj li lj ei ej ri rj hij=> ?_,gdef:=k3.gdef,old:=zFS k3.old g2 }
 ·unfold zA7 at e;split at e
  ·rename_i hcc;obtain⟨rfl,_,hlt⟩:=hcc;simp only[Nat.sub_zero,List.getElem?_take] at e;split at e
   ·simp[World.cell?,g3];simpa using e
   ·cases e
  ·exact k3.imm b o u e
 ·simp only[Heap.frz] at e;split at e
  ·cases e
  ·rename_i hne;cases ho:h.at' i with
   |none=>rw[ho] at e;cases e
   |some ob0=>
    rw[ho] at e;cases e;obtain⟨l',q1,q2,q3⟩:=k3.live i ob0 ho;refine⟨l',q1,q2,zJR hle g1 hc (fun o hz=> ?_) _ q3⟩;unfold zA7;rw[if_neg fun hcc=>hne (k3.apart i id ob0 _ l' l ho k6 q1 g1 hcc.1)];exact hz
 ·simp only[Heap.frz] at ei ej;split at ei
  ·cases ei
  ·split at ej
   ·cases ej
   ·cases hoi:h.at' i with
    |none=>rw[hoi] at ei;cases ei
    |some o1=>
     cases hoj:h.at' j with
     |none=>rw[hoj] at ej;cases ej
     |some o2=>exact k3.apart i j o1 o2 li lj hoi hoj ri rj hij
end
theorem zA.argsFrz {P:Program} {f:FuncId} {args:List D} {h:Heap} {Q:D→Heap→Prop} {id:Nat} {cs:List D} (hi:h.at' id=some (.row cs)) (hv:zA P f (zEo id cs args) (h.frz id cs) Q):zA P f args h Q:=by
 refine⟨hv.1,fun w0 G M ρ w va hg0 hs hfr hr=> ?_⟩;obtain⟨M',l,hle,hl,hc,hs'⟩:=hs.freeze hi;refine(hv.2 w0 G M' ρ w va hg0 hs' hfr (zDZ hle hl hc _ _ hr)).mono fun e w' hq=> ?_;obtain⟨v,M2,ρ2,d,h2,rfl,k1,k2,k3,k4,k5,k7⟩:=hq;exact⟨v,M2,ρ2,d,h2,rfl,hle.trans k1,k2,k3,k4,k5,k7⟩
inductive Pl where
 |nil
 |op (i:Nat) (f:Fl) (r:Pl)
 |or (a b:Pl)
def zDk (P:Program) (mu:Tmp→Bool) (h0:Heap) (ops:Array Oper):Pl→(Frm→Heap→Prop)→Frm→Heap→Prop
 | .nil,K,fr,h=>K fr h
 | .op i f r,K,fr,h=>match ops[i]? with
  |none=>False
  |some o=>ux P mu h0 f ops o fr h fun d h'=>HLe h0 h'∧zDk P mu h0 ops r K (wu fr o.dst d) h'
 | .or a b,K,fr,h=>zDk P mu h0 ops a K fr h∧zDk P mu h0 ops b K fr h
def zaC (P:Program) (mu:Tmp→Bool) (ops:Array Oper) (i:Nat):Pl→Option (Fl×Pl)
 | .nil=>none
 | .op j s r=>match Nat.beq i j with
  |true=>some (s,r)
  |false=>match zaC P mu ops i r with
   |none=>none
   |some x=>match !s.isAl&&zC0 P mu ops (j,s) (i,x.1) with
    |true=>some (x.1, .op j s x.2)
    |false=>none
 | .or a b=>match zaC P mu ops i a with
  |some x=>some x
  |none=>zaC P mu ops i b
def zMc (P:Program) (mu:Tmp→Bool) (ops:Array Oper):Nat→Array Bool→Pl→Bool
 |0,listed,pl=>(Region.ready .any ops listed).isEmpty&&(match pl with
  | .nil=>true
  |_=>false)
 |fuel+1,listed,pl=>(!(Region.ready .any ops listed).isEmpty||(match pl with
  | .nil=>true
  |_=>false))&&(Region.ready .any ops listed).all fun i=>match zaC P mu ops i pl with
   |none=>false
   |some x=> !x.1.isAl&&zMc P mu ops fuel (listed.setIfInBounds i true) x.2
section
variable {P:Program} {mu:Tmp→Bool} {c:Ctx P} {ms:List Nat} {n:Nat} {fr:Frm} {h h0:Heap} {a:Act} {w:World} {Q:Exit→Act→World→Prop} {ro:Option Nat} {ops:Array Oper} {K:Frm→Heap→Prop}
theorem zDc {K':Frm→Heap→Prop} (hk:∀fr h,K fr h→K' fr h):∀ (pl:Pl) (fr:Frm) (h:Heap),zDk P mu h0 ops pl K fr h→zDk P mu h0 ops pl K' fr h
 | .nil,fr,h,hv=>hk _ _ hv
 | .op i f r,fr,h,hv=>by
  simp only[zDk] at hv⊢;split at hv
  ·exact hv
  ·exact zAo (fun d h' hx=>⟨hx.1,zDc hk r _ _ hx.2⟩) hv
 | .or x y,fr,h,hv=>⟨zDc hk x fr h hv.1,zDc hk y fr h hv.2⟩
theorem zDd {i:Nat} {o:Oper} (ho:ops[i]? =some o):∀ (pl:Pl) (f:Fl) (pl':Pl),zaC P mu ops i pl=some (f,pl')→∀ (fr:Frm) (h:Heap),zDk P mu h0 ops pl K fr h→
  ux P mu h0 f ops o fr h fun d h'=>HLe h0 h'∧zDk P mu h0 ops pl' K (wu fr o.dst d) h'
 | .nil,f,pl',hp,fr,h,hv=>by cases hp
 | .or x y,f,pl',hp,fr,h,hv=>by
  simp only[zaC] at hp;split at hp
  ·rename_i z hz;cases hp;exact zDd ho x _ _ hz fr h hv.1
  ·exact zDd ho y _ _ hp fr h hv.2
 | .op j s r,f,pl',hp,fr,h,hv=>by
  simp only[zaC] at hp;simp only[zDk] at hv;split at hp
  ·rename_i hij;have e:i=j:=Nat.eq_of_beq_eq_true hij;subst e;cases hp;rw[ho] at hv;exact hv
  ·split at hp
   ·cases hp
   ·rename_i x hx;split at hp
    ·rename_i hs;cases hp;simp only[Bool.and_eq_true,Bool.not_eq_true'] at hs;cases hj:ops[j]? with
     |none=>rw[hj] at hv;exact hv.elim
     |some oj=>
      rw[hj] at hv;have h1:ux P mu h0 s ops oj fr h fun e h'=>(true=true→HLe h0 h')∧ux P mu h0 x.1 ops o (wu fr oj.dst e) h' fun d h''=>(true=true→HLe h0 h'')∧zDk P mu h0 ops x.2 K (wu (wu fr oj.dst e) o.dst d) h'':=
       zAo (fun e h' hq=>⟨fun _=>hq.1,zAo (fun d h'' hr=>⟨fun _=>hr.1,hr.2⟩) (zDd ho r _ _ hx _ _ hq.2)⟩) hv
      have h2:=zSP (P:=P) (mu:=mu) (h0:=h0) (ops:=ops) (fl1:=true) (fl2:=true) (fun e=>e) (j:=(j,s)) (i:=(i,x.1)) (fun e=>by rw[hs.1] at e;cases e) hj ho hs.2 (X:=fun fr h=>zDk P mu h0 ops x.2 K fr h) h1;refine zAo (fun d h' hq=>⟨hq.1 rfl,?_⟩) h2;simp only[zDk,hj];exact zAo (fun e h'' hr=>⟨hr.1 rfl,hr.2⟩) hq.2
    ·cases hp
theorem zOQ (hreg:zLt n ops=true) (hK:∀fr h a w,St c ms n fr h a w→K fr h→Q .normal a w):∀ (fuel:Nat) (pl:Pl) (listed:Array Bool) (fr:Frm) (h:Heap) (a:Act) (w:World),zMc P mu ops fuel listed pl=true→HLe h0 h→St c ms n fr h a w→zDk P mu h0 ops pl K fr h→
  wpAnyIn (Fr ro) 0 P .any ops Q fuel listed a w:=by
 intro fuel
 induction fuel with
 |zero=>
  intro pl listed fr h a w hg hle hs hv;simp only[zMc,Bool.and_eq_true,List.isEmpty_iff] at hg;refine⟨hg.1,?_⟩;cases pl with
  |nil=>exact hK _ _ _ _ hs hv
  |op _ _ _=>exact absurd hg.2 (by simp)
  |or _ _=>exact absurd hg.2 (by simp)
 |succ fuel ih=>
  intro pl listed fr h a w hg hle hs hv;simp only[zMc,Bool.and_eq_true,List.all_eq_true] at hg;refine⟨fun hr=> ?_,fun i hi=> ?_⟩
  ·have h1:=hg.1;rw[hr] at h1;cases pl with
   |nil=>exact hK _ _ _ _ hs hv
   |op _ _ _=>exact absurd h1 (by simp)
   |or _ _=>exact absurd h1 (by simp)
  ·obtain⟨h1,o,h2,h3⟩:=mem_ready.1 hi;have hq:=hg.2 i hi;split at hq
   ·cases hq
   ·rename_i x hx;simp only[Bool.and_eq_true,Bool.not_eq_true'] at hq;have hu:=zDd h2 pl _ _ hx fr h hv;exact St.ux hs hq.1 h2 hreg (fun _=>hle) hu fun d h' a' w' hs' hk=>ih _ _ _ _ _ _ hq.2 hk.1 hs' hk.2
end
def zNZ (P:Program) (g:Cfg) (n:Nat) (ro:Option Nat) (k:Nat) (pl:Pl):Code→(Exit→Frm→Heap→Prop)→Frm→Heap→Prop
 | .seq a b,Q,fr,h=>zNZ P g n ro k pl a (zC2 (zNZ P g n ro k pl b Q) Q) fr h
 | .region id ops draw,Q,fr,h=>match Nat.beq id k with
  |true=>∃h0,HLe h0 h∧zDk P g.mu h0 ops pl (Q .normal) fr h
  |false=>vwp P g n ro (.region id ops draw) Q fr h
 |co,Q,fr,h=>vwp P g n ro co Q fr h
def zFo (P:Program) (g:Cfg) (n:Nat) (k:Nat) (pl:Pl):Code→Bool
 | .seq a b=>zFo P g n k pl a&&zFo P g n k pl b
 | .region id ops draw=>match Nat.beq id k with
  |true=>zLt n ops&&(draw&&zMc P g.mu ops ops.size (Array.replicate ops.size false) pl)
  |false=>qW P g n (.region id ops draw)
 |co=>qW P g n co
def zaD (P:Program) (g:Cfg) (k:Nat) (pl:Pl) (fn:Func):Bool:=
 match fn.body with
 |some co=>zFo P g fn.ntmps k pl co&& !(fn.name== "runtime.NumGoroutine")
 |none=>false
section
variable {P:Program} {g:Cfg} {c:Ctx P} {ms:List Nat} {n:Nat} {fr:Frm} {h:Heap} {a:Act} {w:World} {ro rb:Option Nat} {k:Nat} {pl:Pl}
theorem zFp (hmix:P.follows .mixedOrders=true):∀ (co:Code) (c:Ctx P) (Q:Exit→Frm→Heap→Prop) (ms:List Nat) (fr:Frm) (h:Heap) (a:Act) (w:World),zFo P g n k pl co=true→zge c ro rb→StM c ms n fr h a w→zNZ P g n ro k pl co Q fr h→
  co.wpIn (Fr rb) 0 P (zVW c n Q) a w
 | .seq x y,c,Q,ms,fr,h,a,w,hok,hro,hs,hv=>by
  simp only[zFo,Bool.and_eq_true] at hok;simp only[zNZ] at hv;refine wpIn_seq (wpIn_mono (zFp hmix x c _ ms fr h a w hok.1 hro hs hv) fun e a' w' hq=> ?_);obtain⟨ms',fr',h',hs',hq⟩:=hq;cases e with
  |normal=>exact zFp hmix y c Q ms' fr' h' a' w' hok.2 hro hs' hq
  |_=>exact⟨ms',fr',h',hs',hq⟩
 | .region id ops draw,c,Q,ms,fr,h,a,w,hok,hro,hs,hv=>by
  simp only[zFo] at hok;simp only[zNZ] at hv;split at hv
  ·rename_i hid;rw[hid] at hok;simp only[Bool.and_eq_true] at hok;obtain⟨o1,o2,o3⟩:=hok;subst o2;obtain⟨h0,hle,hv⟩:=hv;obtain⟨hst,hm1,hm2⟩:=hs;have hK:∀fr h a w,St c ms n fr h a w→Q .normal fr h→zVW c n Q .normal a w:=fun fr h a w k1 k2=>⟨ms,fr,h,⟨k1,hm1,hm2⟩,k2⟩;have hst':St c ms n fr h a { w with drawn:=w.drawn+1 } :=by
    obtain⟨M,ρ,h1,h2,h3,h4⟩:=hst;exact⟨M,ρ,h1,h2,h3.drew,h4⟩
   exact wpIn_region_any hmix (zOQ (ro:=rb) (h0:=h0) o1 hK ops.size pl _ fr h a _ o3 hle hst' hv)
  ·rename_i hid;rw[hid] at hok;exact yH hmix _ c Q ms fr h a w hok hro hs hv
 | .skip,c,Q,ms,fr,h,a,w,hok,hro,hs,hv=>yH hmix _ c Q ms fr h a w hok hro hs hv
 | .exit id,c,Q,ms,fr,h,a,w,hok,hro,hs,hv=>yH hmix _ c Q ms fr h a w hok hro hs hv
 | .ret,c,Q,ms,fr,h,a,w,hok,hro,hs,hv=>yH hmix _ c Q ms fr h a w hok hro hs hv
 | .block id x,c,Q,ms,fr,h,a,w,hok,hro,hs,hv=>yH hmix _ c Q ms fr h a w hok hro hs hv
 | .cond x y z,c,Q,ms,fr,h,a,w,hok,hro,hs,hv=>yH hmix _ c Q ms fr h a w hok hro hs hv
 | .loop x,c,Q,ms,fr,h,a,w,hok,hro,hs,hv=>yH hmix _ c Q ms fr h a w hok hro hs hv
 | .rangeFunc f ps asg body,c,Q,ms,fr,h,a,w,hok,hro,hs,hv=>yH hmix _ c Q ms fr h a w hok hro hs hv
 | .label l,c,Q,ms,fr,h,a,w,hok,hro,hs,hv=>yH hmix _ c Q ms fr h a w hok hro hs hv
 | .goto l,c,Q,ms,fr,h,a,w,hok,hro,hs,hv=>yH hmix _ c Q ms fr h a w hok hro hs hv
 | .scope x,c,Q,ms,fr,h,a,w,hok,hro,hs,hv=>yH hmix _ c Q ms fr h a w hok hro hs hv
 | .refuse l,c,Q,ms,fr,h,a,w,hok,hro,hs,hv=>yH hmix _ c Q ms fr h a w hok hro hs hv
theorem zA.of_fnT (k:Nat) (pl:Pl) (hmix:P.follows .mixedOrders=true) {f:FuncId} {fn:Func} {co:Code} {args:List D} {Q:D→Heap→Prop} (hf:P.funcs[f]? =some fn) (hok:zaD P g k pl fn=true) (hb:fn.body=some co) (hl:Nat.ble args.length fn.ntmps=true)
  (hv:zNZ P g fn.ntmps none k pl co (zVD P fn.results.toList Q) (V.zKW args) h):zA P f args h Q:=by
 unfold zaD at hok;rw[hb] at hok;simp only[Bool.and_eq_true,Bool.not_eq_true'] at hok;obtain⟨hok,hn⟩:=hok;have hl:=Nat.le_of_ble_eq_true hl;refine⟨by simp[wS,hf,hb,bne,hn],fun w0 G M ρ w va hg0 hs hfr hr=> ?_⟩;have hsz:=zO hr;rw[Array.length_toList] at hsz;refine callsIn_wide.1 (callsIn_of_wp_marks (F:=Fence.wide) (n:=0) hf hb trivial ?_);have hst:StM ⟨w0,G,M,ρ,hg0⟩ [] fn.ntmps (V.zKW args) h { tmps:=va++Array.replicate (fn.ntmps-va.size) undef,defers:=[] } w:=
  ⟨⟨M,ρ,MLe.refl _,RLe.refl _,hs,hfr,zJM hr _,rfl,by simp;omega⟩,List.nodup_nil,fun b hb=>by cases hb⟩
 refine wpIn_mono (zFp (ro:=none) (rb:=none) hmix co ⟨w0,G,M,ρ,hg0⟩ _ [] _ _ _ _ hok trivial hst hv) fun e a' w' hq=> ?_;obtain⟨ms,fr',h',⟨⟨M',ρ',k1,k2,k3,k4,k5,k6,k7⟩,k8,k9⟩,hq⟩:=hq;have fin:∀ds,zA1 P fr' h' fn.results.toList=some ds→Q (zEm ds) h'→LeavesInM Fence.wide 0 P fn a'.tmps (Ret w0 G M ρ Q) a'.defers .returning w':=fun ds hds hQ=>by
  rw[k6];refine zFX ms w' k3 k8 k9 fun w2 hs2=> ?_;obtain⟨v,r1,r2⟩:=zHV (P:=P) hs2 k5 hds;exact⟨v,r1,v,M',ρ',_,h',rfl,k1,k2,hs2,k4,r2,hQ⟩
 unfold zVD at hq;obtain⟨he,hq⟩:=hq;split at hq
 ·rename_i ds hds;cases e with
  |normal=>exact fin ds hds hq
  |ret=>exact fin ds hds hq
  |_=>exact he.elim
 ·exact hq.elim
end
def vtw (P:Program) (mu:Tmp→Bool) (h0:Heap) (ops:Array Oper):Pl→(Frm→Heap→Prop)→Frm→Heap→Prop
 | .nil,K,fr,h=>K fr h
 | .op i f r,K,fr,h=>onO ops[i]? fun o=>zTz P mu h0 f ops o fr h fun d h'=>HLe h0 h'∧vtw P mu h0 ops r K (wu fr o.dst d) h'
 | .or a b,K,fr,h=>vtw P mu h0 ops a K fr h∧vtw P mu h0 ops b K fr h
section
variable {P:Program} {g:Cfg} {n:Nat} {ro:Option Nat} {k:Nat} {pl:Pl} {mu:Tmp→Bool} {h0:Heap} {Q:Exit→Frm→Heap→Prop} {fr:Frm} {h:Heap} {K:Frm→Heap→Prop}
theorem zG0 {ops:Array Oper} :∀ (pl:Pl) (fr:Frm) (h:Heap),vtw P mu h0 ops pl K fr h→zDk P mu h0 ops pl K fr h
 | .nil,fr,h,hv=>hv
 | .or x y,fr,h,hv=>⟨zG0 x fr h hv.1,zG0 y fr h hv.2⟩
 | .op i f r,fr,h,hv=>by
  simp only[vtw] at hv;simp only[zDk];unfold onO at hv;split at hv
  ·rename_i o ho;rw[ho];exact zAo (fun d h' hx=>⟨hx.1,zG0 r _ _ hx.2⟩) (zT1 hv)
  ·exact hv.elim
theorem zUB (h0:Heap) (R:Frm→Heap→Prop) {l:List Oper} {id:Nat} (hid:Nat.beq id k=true) (hle:HLe h0 h) (hv:vtw P g.mu h0 l.toArray pl R fr h) (hR:∀fr h,R fr h→Q .normal fr h):zNZ P g n ro k pl (.region id l.toArray true) Q fr h:=by
 simp only[zNZ,hid];exact⟨h0,hle,zDc hR _ _ _ (zG0 _ _ _ hv)⟩
@[go_sem ↓] theorem zig {ops:Array Oper} :vtw P mu h0 ops .nil K fr h=K fr h:=(rfl)
@[go_sem ↓] theorem zkR {l:List Oper} (i:Nat) (f:Fl) (r:Pl):vtw P mu h0 l.toArray (.op i f r) K fr h=onO l[i]? fun o=>zTz P mu h0 f l.toArray o fr h fun d h'=>HLe h0 h'∧vtw P mu h0 l.toArray r K (wu fr o.dst d) h':=by
 simp only[vtw,List.getElem?_toArray]
@[go_sem ↓] theorem zWY (a b:Code):zNZ P g n ro k pl (.seq a b) Q fr h=zNZ P g n ro k pl a (zC2 (zNZ P g n ro k pl b Q) Q) fr h:=(rfl)
@[go_sem ↓] theorem zew (c:Operand) (a b:Code):zNZ P g n ro k pl (.cond c a b) Q fr h=vwp P g n ro (.cond c a b) Q fr h:=(rfl)
@[go_sem ↓] theorem zbz (id:Nat) (c:Code):zNZ P g n ro k pl (.block id c) Q fr h=vwp P g n ro (.block id c) Q fr h:=(rfl)
@[go_sem ↓] theorem zgS:zNZ P g n ro k pl .ret Q fr h=vwp P g n ro .ret Q fr h:=(rfl)
theorem zAX {id:Nat} (hid:(id==k)=false) (ops:Array Oper) (d:Bool):zNZ P g n ro k pl (.region id ops d) Q fr h=vwp P g n ro (.region id ops d) Q fr h:=by
 have hid:Nat.beq id k=false:=by
  cases hb:Nat.beq id k with
  |false=>rfl
  |true=>rw[Nat.eq_of_beq_eq_true hb] at hid;simp at hid
 simp only[zNZ,hid]
def Heap.one (i:Nat) (o:Obj):Heap:=⟨0,fun j=>if j=i then some o else none⟩
theorem zYV (i:Nat) (o:Obj):(Heap.one i o).at' i=some o:=if_pos rfl
theorem wx {i:Nat} {o:Obj} :HLe (Heap.one i o) h=(h.at' i=some o):=by
 apply propext;constructor
 ·exact fun q=>q i o (zYV i o)
 ·intro q j ob hj;simp only[Heap.one] at hj;split at hj
  ·rename_i e;subst e;cases hj;exact q
  ·cases hj
end
end Go.V
