/- Contracts of functions that the law reaches, part 1. No condition. -/
import Derived.Test.YtkenagjlanhnmaaGreatDoorW19
import Derived.Lib.SlicesCompact
import Derived.Lib.RowBridge
import Derived.Sort.Walk0
import Derived.Shelf.SlSortCmp.WholeK
import Derived.Ground.SlsfProg
import Derived.Shelf.SlSortCmp.Whole1
set_option linter.all false
set_option maxHeartbeats 8000000
namespace Go.V
open Go.Proofs
abbrev Str:=List UInt8
theorem Uk(a b:Str):WS a b=decide (a<b):=bytesLess_eq a b
open Go.Proofs.Tryz
def Zc(s:List UInt8):List (List D):=s.map λb=>[.int .u8 (b.toNat:Int)]
def UF(s:List UInt8):(Zc s).length=s.length:=zI ..
variable{s:List UInt8}{i k id n:Nat}{d x:D}{xs:List (List D)}{S:Nat->Prop}{h:Heap}{cap:List D}
def Mz(h:i<s.length):(Zc s)[i]? =some [.int .u8 (s[i].toNat:Int)]:=by simp[Zc,h]
def LP(s:List UInt8):o8 prog 9 255 (.str s)=some (.sl 1 (Zc s) .no):=by
 simp only[o8,underlying9,underlying255,underlying5,Zc]
set_option maxRecDepth 100000
def uq(a b:Int):Int:=if a<b then -1 else if a>b then 1 else 0
def sQ:List Int->List Int->Int
 | [],[]=>0
 | [],_::_=> -1
 |_::_,[]=>1
 |a::l,b::m=>if uq a b=0 then sQ l m else uq a b
def orL:List Int->Int
 | []=>0
 |a::l=>if a=0 then orL l else a
def JS{l m:List Int} :∀{i:Nat},i<l.length->(a:i<m.length)->sQ (l.drop i) (m.drop i)=if uq (l.getD i 0) (m.getD i 0)=0 then sQ (l.drop (i+1)) (m.drop (i+1))else uq (l.getD i 0) (m.getD i 0):=by
 intro i b a;rw[yi b,yi a];simp[sQ,zE,b,a]
def Ks(a:Int)(h:Heap):zD prog 173 [.int .i64 a] h λr h'=>h'=h/\r=.bool false:=by
 refine zj zFV ?_;simp only[f173,zA];simp only[go_sem,Nat.reduceEqDiff,↓reduceIte,bne_self_eq_false,and_self]
def Yr(a b:Int)(h:Heap):zD prog 113 [.int .i64 a,.int .i64 b] h λr h'=>h'=h/\r=.int .i64 (uq a b):=by
 refine zj zFA ?_;simp only[f113,zA];simp only[go_sem,Nat.reduceEqDiff,↓reduceIte];refine(Ks a h).mono ?_;rintro r h ⟨rfl,rfl⟩;simp only[go_sem,Nat.reduceEqDiff,↓reduceIte];refine(Ks b h).mono ?_;rintro r h ⟨rfl,rfl⟩;simp only[go_sem,Nat.reduceEqDiff,↓reduceIte];cases e1:decide (a<b)with
 |true=>
  simp only[go_sem,Nat.reduceEqDiff,↓reduceIte];simp[uq,yE e1]
 |false=>
  simp only[go_sem,Nat.reduceEqDiff,↓reduceIte];cases e2:decide (a>b)with
  |true=>
   simp only[go_sem,Nat.reduceEqDiff,↓reduceIte];simp[uq,yA e1,yE e2]
  |false=>
   simp only[go_sem,Nat.reduceEqDiff,↓reduceIte];simp[uq,yA e1,yA e2]
def zCW{l:List Int}(m:yZ 1 (wt l) d)(o:l.length<=1048576)(h:Heap):zD prog 112 [d] h λr h'=>h'=h/\r=.int .i64 (orL l):=by
 refine zj zE9 ?_;simp only[f112,zA];have k:((wt l).length:Int)=l.length:=by rw[wE]
 simp only[go_sem,Nat.reduceEqDiff,↓reduceIte,wL m underlying30,k];refine qn (λi fr h'=>fr 3=.int .i64 0/\fr 6=d/\fr 7=.int .i64 l.length/\fr 8=.int .i64 (i:Int)/\h'=h/\orL (l.drop i)=orL l) l.length ?_ ?_
 .simp only[go_sem,Nat.reduceEqDiff,↓reduceIte,zM,wN]
  trivial
 rintro i fr h' n ⟨c,e,f,g,rfl,b⟩;simp only[go_sem,Nat.reduceEqDiff,↓reduceIte,c,e,f,g];by_cases a:i<l.length
 .rw[zR (by exact_mod_cast a)]
  rw[yi a]at b;simp only[orL]at b;simp only[go_sem,Nat.reduceEqDiff,↓reduceIte,c,e,f,g,yR m wA sG (fY a),wI];by_cases h0:l[i]=0
  .rw[show(l[i] !=0)=false by simp[h0]]
   simp only[go_sem,Nat.reduceEqDiff,↓reduceIte,c,e,f,g];rw[ip h0]at b;exact⟨a,by rw[qH jL],b⟩
  .rw[show(l[i] !=0)=true by simp[h0]]
   simp only[go_sem,Nat.reduceEqDiff,↓reduceIte];rw[iq h0]at b;rw[b]
 .have j:i=l.length:=ow
  subst j;rw[zN ow];simp only[go_sem,Nat.reduceEqDiff,↓reduceIte,c];rw[nW]at b;rw[<-b];trivial
def Pf(n:Nat):Bool:= !(decide (97<=n)&&decide (n<=122)||decide (48<=n)&&decide (n<=57)||decide (n=46)||decide (n=95)||decide (n=45))
def PF(n:Nat)(h:Heap):zD prog 376 [.int .i32 n] h λr h'=>h'=h/\r=.bool (Pf n):=by
 refine zj zGW ?_;simp only[f376,zA];have key:∀a b c d f g i:Bool,decide ((n:Int)>=97)=a->decide ((n:Int)<=122)=b->decide ((n:Int)>=48)=c->decide ((n:Int)<=57)=d->((n:Int)==46)=f->((n:Int)==95)=g->((n:Int)==45)=i->Pf n= !(a&&b||c&&d||f||g||i):=by
  rintro _ _ _ _ _ _ _ rfl rfl rfl rfl rfl rfl rfl;have p:((n:Int)==46)=decide (n=46):=by by_cases e:n=46<;>simp[e]<;>omega
  have q:((n:Int)==95)=decide (n=95):=by by_cases e:n=95<;>simp[e]<;>omega
  have s:((n:Int)==45)=decide (n=45):=by by_cases e:n=45<;>simp[e]<;>omega
  have e1:decide ((n:Int)>=97)=decide (97<=n):=by by_cases e:97<=n<;>simp[e]<;>omega
  have e2:decide ((n:Int)<=122)=decide (n<=122):=by by_cases e:n<=122<;>simp[e]<;>omega
  have e3:decide ((n:Int)>=48)=decide (48<=n):=by by_cases e:48<=n<;>simp[e]<;>omega
  have o:decide ((n:Int)<=57)=decide (n<=57):=by by_cases e:n<=57<;>simp[e]<;>omega
  rw[e1,e2,e3,o,p,q,s];rfl
 cases h1:decide ((n:Int)>=97)<;>cases j:decide ((n:Int)<=122)<;>cases h3:decide ((n:Int)>=48)<;>cases k:decide ((n:Int)<=57)<;>cases h5:((n:Int)==46)<;>cases l:((n:Int)==95)<;>cases m:((n:Int)==45)<;>rw[key _ _ _ _ _ _ _ h1 j h3 k h5 l m] <;>
  simp only[go_sem,Nat.reduceEqDiff,↓reduceIte,vun,h1,j,h3,k,h5,l,m]<;>rfl
def Uv(s:List UInt8):Bool:=match s with
 | []=>false
 |b::r=> !(decide ((b::r).length>32)||(b==46||(b==45||p0 Pf (b::r) ((b::r).length+1) 0)))
def LL(g:s.length<=1048576)(h:Heap):zD prog 320 [.str s] h λr h'=>h'=h/\r=.bool (Uv s):=by
 refine zj zGI ?_;simp only[f320,zA];cases s with
 |nil=>simp only[go_sem,Nat.reduceEqDiff,↓reduceIte,show(([]:List UInt8)== [])=true from rfl,Uv]
 |cons b r=>
  have h0:((b::r:List UInt8)== [])=false:=rfl;have d:nS prog 9 (.str (b::r)) (.int .i64 0)=some (.int .u8 b.toNat):=ss (n:=0) underlying9 rfl;have e1:((b.toNat:Int)==46)=(b==46):=by
   by_cases e:b=46
   .subst e;rfl
   .rw[yv.2 e,yv.2 λh=>e (gD.1 (by rw[show(46:UInt8).toNat=46 from rfl];omega))]
  have e2:((b.toNat:Int)==45)=(b==45):=by
   by_cases e:b=45
   .subst e;rfl
   .rw[yv.2 e,yv.2 λh=>e (gD.1 (by rw[show(45:UInt8).toNat=45 from rfl];omega))]
  have c:decide (((b::r).length:Int)>32)=decide ((b::r).length>32):=by
   by_cases e:(b::r).length>32
   .rw[zR e,zR ow]
   .rw[zN e,zN ow]
  cases h1:decide ((b::r).length>32)with
  |true=>
   simp only[go_sem,Nat.reduceEqDiff,↓reduceIte,h0,tm underlying9,c,h1];simp only[Uv,h1];rfl
  |false=>
  cases a:(b==46)with
  |true=>
   simp only[go_sem,Nat.reduceEqDiff,↓reduceIte,h0,tm underlying9,c,h1,d,e1,a];simp only[Uv,h1,a];rfl
  |false=>
  cases h3:(b==45)with
  |true=>
   simp only[go_sem,Nat.reduceEqDiff,↓reduceIte,h0,tm underlying9,c,h1,d,e1,e2,a,h3];simp only[Uv,h1,a,h3];rfl
  |false=>
   simp only[go_sem,Nat.reduceEqDiff,↓reduceIte,h0,tm underlying9,c,h1,d,e1,e2,a,h3];refine(Y2 g (λn _ h=>PF n h) _).mono ?_;rintro q f ⟨rfl,rfl⟩;simp only[vun,go_sem,Nat.reduceEqDiff,↓reduceIte,Uv,h1,a,h3]
def Pg(s:List UInt8):Int:=if s.length>128\/(qj 47 s).length>8\/(qj 47 s).any (λp=> !Uv p)=true then 2 else 0
def W2(i:s.length<=1048576)(h:Heap):zD prog 245 [.str s] h λr h'=>h'=h/\r=.int .i64 (Pg s):=by
 refine zj zF2 ?_;simp only[f245,zA];simp only[go_sem,Nat.reduceEqDiff,↓reduceIte];refine(JC i 47 _).mono ?_;rintro r b ⟨rfl,rfl⟩;have d:=bw 47 s;have a:decide ((s.length:Int)>128)=decide (s.length>128):=by
  by_cases e:s.length>128
  .rw[zR e,zR ow]
  .rw[zN e,zN ow]
 have e1:decide (((wg (qj 47 s)).length:Int)>8)=decide ((qj 47 s).length>8):=by
  rw[qm];by_cases e:(qj 47 s).length>8
  .rw[zR e,zR ow]
  .rw[zN e,zN ow]
 cases h1:decide (s.length>128)with
 |true=>
  simp only[go_sem,Nat.reduceEqDiff,↓reduceIte,tm underlying9,a,h1];rw[Pg,ip (.inl (yE h1))]
 |false=>
 have f:=yA h1;cases h3:decide ((qj 47 s).length>8)with
 |true=>
  simp only[go_sem,Nat.reduceEqDiff,↓reduceIte,tm underlying9,wL (yZ.mk .no) underlying45,a,e1,h1,h3];rw[Pg,ip (.inr (.inl (yE h3)))]
 |false=>
 have g:=yA h3;simp only[go_sem,Nat.reduceEqDiff,↓reduceIte,tm underlying9,wL (yZ.mk .no) underlying45,a,e1,h1,h3];refine(Yv (yZ.mk .no) ow (p:=λp=> !Uv p) (λp j h=> ?_) _).mono ?_
 .refine zj zGH ?_
  simp only[f319,zA];have:=dj 47 s p j;simp only[go_sem,Nat.reduceEqDiff,↓reduceIte];refine(LL ow _).mono ?_;rintro r b ⟨rfl,rfl⟩;simp only[vun,go_sem,Nat.reduceEqDiff,↓reduceIte]
 .rintro r b ⟨rfl,rfl⟩
  cases c:(qj 47 s).any (λp=> !Uv p)with
  |true=>
   simp only[go_sem,Nat.reduceEqDiff,↓reduceIte];rw[Pg,ip (.inr (.inr c))]
  |false=>
   simp only[go_sem,Nat.reduceEqDiff,↓reduceIte];rw[Pg,iq (λh=>h.elim f λh=>h.elim g λh=>by rw[c]at h;cases h)]
end Go.V
namespace Go.Proofs
open Go.Shelf
def Tryz.sortLic_ren:Go.Shelf.Ren:=⟨fun|6=>327|15=>234|14=>378|28=>301|29=>302|20=>167|21=>400|22=>401|23=>402|24=>403|25=>404|26=>405|27=>406|46=>432|47=>368|48=>369|49=>433|50=>434|57=>442|n=>n,fun|22=>22|24=>117|25=>119|3=>3|39=>299|0=>0|53=>355|55=>357|4=>4|46=>348|45=>347|50=>166|5=>5|9=>9|66=>397|70=>401|76=>426|77=>172|n=>n,fun|n=>n⟩
def Tryz.sortLic:Go.Proofs.SlLaysF0.n6 Tryz.prog Tryz.sortLic_ren:=by constructor<;>intros<;>exact lay_k
def Tryz.pdqTrm_ren:Go.Shelf.Ren:=⟨fun|14=>379|20=>407|21=>408|22=>409|23=>410|24=>411|25=>412|26=>413|27=>414|46=>435|47=>368|48=>369|49=>436|50=>437|15=>234|57=>443|28=>301|29=>302|n=>n,fun|24=>197|22=>194|3=>3|25=>370|4=>4|0=>0|46=>348|45=>347|50=>166|66=>397|39=>299|55=>357|70=>401|76=>426|77=>172|53=>355|5=>5|9=>9|n=>n,fun|n=>n⟩
def Tryz.pdqTrm:Go.Proofs.SlLaysF0.n14 Tryz.prog Tryz.pdqTrm_ren:=by constructor<;>intros<;>exact lay_k
def Tryz.sortVio_ren:Go.Shelf.Ren:=⟨fun|6=>197|15=>234|14=>235|28=>301|29=>302|20=>303|21=>304|22=>305|23=>306|24=>307|25=>308|26=>309|27=>310|46=>372|47=>368|48=>369|49=>373|50=>374|57=>398|n=>n,fun|22=>157|24=>137|25=>275|3=>3|39=>299|0=>0|53=>355|55=>357|4=>4|46=>348|45=>347|50=>166|5=>5|9=>9|66=>397|70=>401|76=>426|77=>172|n=>n,fun|n=>n⟩
def Tryz.sortVio:Go.Proofs.SlLaysF0.n6 Tryz.prog Tryz.sortVio_ren:=by constructor<;>intros<;>exact lay_k
def Tryz.sortAlt_ren:Go.Shelf.Ren:=⟨fun|6=>332|15=>234|14=>380|28=>301|29=>302|20=>415|21=>416|22=>417|23=>418|24=>419|25=>420|26=>421|27=>422|46=>438|47=>368|48=>369|49=>439|50=>440|57=>444|n=>n,fun|22=>44|24=>195|25=>372|3=>3|39=>299|0=>0|53=>355|55=>357|4=>4|46=>348|45=>347|50=>166|5=>5|9=>9|66=>397|70=>401|76=>426|77=>172|n=>n,fun|n=>n⟩
def Tryz.sortAlt:Go.Proofs.SlLaysF.n6 Tryz.prog Tryz.sortAlt_ren:=by constructor<;>intros<;>exact lay_k
def Tryz.lays189_ren:Go.Shelf.Ren:=⟨fun|189=>195|125=>234|257=>233|128=>301|129=>302|294=>292|295=>293|296=>294|297=>295|298=>296|299=>297|216=>298|300=>299|301=>300|328=>367|329=>368|330=>369|331=>370|332=>371|215=>173|343=>397|n=>n,fun|28=>30|3=>3|46=>299|0=>0|51=>355|53=>357|4=>4|183=>348|182=>347|131=>166|5=>5|9=>9|218=>397|222=>401|228=>426|229=>172|n=>n,fun|n=>n⟩
def Tryz.lays189:Go.Proofs.Lays.n189 Tryz.prog Tryz.lays189_ren:=by constructor<;>intros<;>exact lay_k
open Go.Sort Go.RowKit in
def Tryz.slices_Sort_int(a off cap:Nat)(zs:List Int)(w:World)(d:Holds (Value.int .i64) w a off zs.toArray)(b:a<w.heap.size)(c:zs.length<4611686018427387904):
  Calls Tryz.prog 195 #[.slice (some ⟨a,off,none⟩) zs.length cap] w λe g=>
   e=.returned (.tuple #[])/\∃n f,g=grow (putRow (Value.int .i64) (Sort.ahead w n) a off (zs.mergeSort λx y=>decide (x<=y)).toArray) f:=Any.slices_Sort_int Tryz.lays189 a off cap zs w d b c
end Go.Proofs
namespace Go.V
open Go.Proofs.Tryz
open Go.Proofs
set_option maxRecDepth 100000
def zJm:Cfg:=⟨λ_=>false,λ_=>[]⟩
def zGc:Pb prog zJm f133=true:=kr
variable{xs:List (List D)}{d x:D}{s:List UInt8}{i k id n:Nat}{S:Nat->Prop}{h:Heap}{cap:List D}
def NY(b:yZ 4 xs d)(c:∀x∈xs,x.length=4)(f:xs.length<=1048576)(h:Heap):
  zD prog 200 [d] h λr h'=>(xs= []/\h'=h/\(r=.nilsl/\d=.nilsl\/r=.sl 4 [] .full/\Jp d=false))\/(xs≠[]/\r=.rs h.next 4 0 xs.length/\h'=h.new h.next (.row xs.flatten)):=by
 refine zj zFn ?_;simp only[f200,zA];simp only[go_sem,Nat.reduceEqDiff,↓reduceIte,um b underlying53];rcases VC b with⟨h1,rfl,rfl⟩ | ⟨h1,tk,rfl⟩
 .simp only[h1,go_sem,Nat.reduceEqDiff,↓reduceIte,zM,zV]
  grind
 .have e:xs.length*72<=lim:=jL
  have a:xs.length<=lim:=jL;simp only[h1,go_sem,Nat.reduceEqDiff,↓reduceIte,uc,Nat.reduceBEq,wT bL Mr jq rfl rfl (by omega:0<4)];rw[oE bL zBG jq ow c (by rw[Kc];omega) a];by_cases h0:xs.length=0
  all_goals simp_all [ye,onR,sV]
def Ki(c:yZ 1 xs d)(e:∀x∈xs,uA x)(b:∀x∈xs,x.length=1)(i:xs.length<=1048576)(h:Heap):zD prog 133 [d] h λr h'=>h'=h/\r=qM d:=by
 refine xU kr λ_=>xS ?_;refine xO mix func133 zGc rfl rfl ?_;simp only[f133,zA];simp only[go_sem,Nat.reduceEqDiff,↓reduceIte,um c underlying45];rcases VC c with⟨h1,rfl,rfl⟩ | ⟨h1,tk,rfl⟩
 .simp only[h1,go_sem,Nat.reduceEqDiff,↓reduceIte,zM,zV]
  exact⟨Ext.refl h,trivial⟩
 .have f:xs.length*16<=lim:=jL
  have a:xs.length<=lim:=jL;simp only[h1,go_sem,Nat.reduceEqDiff,↓reduceIte,zJm,uc,Nat.reduceBEq,wT ww fM pK rfl rfl (by omega:0<1)];rw[gy ww aR pK ow b (by rw[p6];exact f) a];by_cases h0:xs.length=0
  .grind [fo,Ext.refl,qM,oJ,below,oG]
  .rw[iq h0]
   simp only[fo,(qY (sz:=1) e _).1];exact⟨(Ext.refl h).new (zC _) _,qQ (yM _) _ (qY e .no).2,trivial⟩
theorem U7{e:List D}(i:Shp prog k 55 e):∃ (j:Nat) (a:Int) (s t:List UInt8) (b:D) (xs:List (List D)),j<k/\e= [.int .i64 a,.str s,.str t,b]/\yZ 4 xs b/\(b=.nilsl\/b=.sl 4 xs .no)/\xs.length<=1048576/\∀x∈xs,Shp prog j 55 x:=by
 obtain⟨j,r,hf⟩:=ui underlying55 i;obtain⟨n,r1,rfl,h1,hf⟩:=yQ hf;obtain⟨o,r2,rfl,f,hf⟩:=yQ hf;obtain⟨p,r3,rfl,h3,hf⟩:=yQ hf;obtain⟨q,r4,rfl,c,hf⟩:=yQ hf;obtain rfl:=rG hf;obtain⟨a,rfl,_⟩:=sx underlying3 h1;obtain⟨s,rfl,_⟩:=tt underlying9 f;obtain⟨t,rfl,_⟩:=tt underlying9 h3;obtain⟨d,xs,m,rfl,l,c,h5,g,h⟩:=nh underlying53 jq c;exact⟨m,a,s,t,d,xs,ow,rfl,c,h5,g,h⟩
def QR{e:List D}(a:Shp prog k 55 e):e.length=4:=by grind [U7]
theorem zJS:∀(k:Nat)(e:List D),Shp prog k 55 e->∀h,zD prog 132 [.agg e] h λr h'=>h'=h/\r=.agg e:=by
 intro k
 induction k using Nat.strongRecOn with
 |_ k Q=>
 intro e J h;have u:=pF k 55 e J;obtain⟨j,a,s,t,z,xs,O,rfl,C,w,K,I⟩:=U7 J;have l:∀x∈xs,x.length=4:=λx h=>QR (I x h);refine xU kr λP=>xS ?_;by_cases h0:xs= []
 .subst h0
  refine zj zAH ?_;simp only[f132,zA];have e2:∀o,(h.new h.next o).next=h.next+1:=λo=>za h o;have b:∀o1 o2:Obj,((h.new h.next o1).new (h.next+1) o2).at' h.next=some o1:=λo1 o2=>by rw[zf ow,z5]
  simp only[go_sem,Nat.reduceEqDiff,↓reduceIte,uc,Nat.reduceBEq,wI,Nat.reduceAdd,yH,e2,b];refine(NY C l K _).mono ?_;rintro r L (⟨_,rfl,hr⟩ | ⟨h1,_⟩)
  rotate_left
  .exact absurd rfl h1
  have H:r.cells= [r]/\r.flat=true/\yZ 4 [] r/\qM r=z/\below 0 r:=by
   rcases hr with⟨rfl,rfl⟩ | ⟨rfl,h1⟩
   .exact⟨rfl,rfl,yZ.nil,rfl,trivial⟩
   .refine⟨rfl,rfl,yZ.mk _,?_,by simp[below,oG]⟩
    rcases w with rfl|rfl
    .cases h1
    .rfl
  obtain⟨r1,r2,r3,r4,r5⟩:=H;rw[yN (cs:=[.int .i64 a,.str s,.str t,z]) (b _ _) BK jS r1 r2];simp only[go_sem,Nat.reduceEqDiff,↓reduceIte,lG,tY,wI,wL r3 underlying53,qD];refine qn (λi fr h'=>fr 1=.ptr h.next 0/\fr 2=.ptr (h.next+1) 0/\fr 10=.int .i64 0/\fr 11=.int .i64 (i:Int)/\h'.at' h.next=some (.row [.int .i64 a,.str s,.str t,r])/\h'.at' (h.next+1)=some (.row [.int .i64 0,.str [],.str [],.nilsl])/\Ext h h') 0 ?_ ?_
  .simp only[go_sem,Nat.reduceEqDiff,↓reduceIte,zM]
   refine⟨rfl,rfl,?_,((((Ext.refl h).new (zC _) _).new ow _).set (zC _) _)⟩;simp[Heap.new,Heap.set]
  .rintro i fr h' N ⟨m,n,c,d,v,A,g⟩
   have p:i=0:=ow;subst p;have y:yO true 4 [.int .i64 a,.str s,.str t,r] 0=some (.agg [.int .i64 a,.str s,.str t,r]):=zJ rfl ow;simp only[go_sem,Nat.reduceEqDiff,↓reduceIte,m,n,c,d];rw[zN ow];simp only[go_sem,Nat.reduceEqDiff,↓reduceIte,m,n,c,d,v,y];rw[ql (cs':=[.int .i64 a,.str s,.str t,r]) A jq rfl jS (by simp only[uU,List.all_nil,r2];rfl)];simp only[go_sem,y];have M:qU [.int .i64 a,.str s,.str t,r]= [.int .i64 a,.str s,.str t,z]:=by
    simp only[qU,r4];rfl
   rw[qM,M];exact⟨g.set ow _,tI (yM _) _ u.2.1,rfl⟩
 .refine zD.freezeD ?_
  refine zj zAH ?_;simp only[f132,zA];have e2:∀o,(h.new h.next o).next=h.next+1:=λo=>za h o;have e3:∀o1 o2:Obj,((h.new h.next o1).new (h.next+1) o2).next=h.next+2:=λo1 o2=>by rw[qG _ (by rw[e2];exact zC _)]
  have b:∀o1 o2:Obj,((h.new h.next o1).new (h.next+1) o2).at' h.next=some o1:=λo1 o2=>by rw[zf ow,z5]
  simp only[go_sem,Nat.reduceEqDiff,↓reduceIte,uc,Nat.reduceBEq,wI,Nat.reduceAdd,yH,e2,b];refine(NY C l K _).mono ?_;rintro r L (⟨h1,_⟩ | ⟨_,rfl,rfl⟩)
  .exact absurd h1 h0
  simp only[e3];rw[yN (cs:=[.int .i64 a,.str s,.str t,z]) (by rw[zf ow,b]) BK jS rfl rfl];simp only[go_sem,Nat.reduceEqDiff,↓reduceIte,lG,tY,wI,oz underlying53];refine qn (λi fr h'=>fr 1=.ptr h.next 0/\fr 2=.ptr (h.next+1) 0/\fr 10=.int .i64 xs.length/\fr 11=.int .i64 (i:Int)/\h'.at' h.next=some (.row [.int .i64 a,.str s,.str t,.rs (h.next+2) 4 0 xs.length])/\h'.at' (h.next+1)=some (.row [.int .i64 0,.str [],.str [],.nilsl])/\h'.at' (h.next+2)=some (.row xs.flatten)/\Ext h h') xs.length ?_ ?_
  .simp only[go_sem,Nat.reduceEqDiff,↓reduceIte,zM]
   refine⟨rfl,?_,?_,(((((Ext.refl h).new (zC _) _).new ow _).new ow _).set (zC _) _)⟩
   .simp[Heap.new,Heap.set]
   .simp[Heap.new,Heap.set]
  .rintro i fr h' N ⟨m,n,c,d,v,A,B,g⟩
   simp only[go_sem,Nat.reduceEqDiff,↓reduceIte,m,n,c,d];by_cases f:i<xs.length
   .rw[zR (by exact_mod_cast f)]
    simp only[go_sem,Nat.reduceEqDiff,↓reduceIte,m,n,c,d];refine yq h' (pwt [0] ((1,.st,true)::(pwt [2,3,4,5,6,7,8,9] (pwf [10] [])))) kr kr (λ_ _ e=>e) ?_;have G:xs[i]∈xs:=zH f;have q:=o5 l ow (zB f);simp only[go_sem,Nat.reduceEqDiff,↓reduceIte,m,n,c,d,v,B,yH,wI,qX bL jq f,q];refine(Q j O _ (I _ G) h').mono ?_;rintro r h3 ⟨rfl,rfl⟩;simp only[go_sem,qX bL jq f];rw[cj B l ow jq f (l _ G) (pF _ _ _ (I _ G)).1,hP];simp only[go_sem];refine⟨f,by rw[qH jL],?_,?_,g.set ow _⟩
    .simp[Heap.set,v]
    .simp[Heap.set,A]
   .have p:i=xs.length:=ow
    subst p;rw[zN ow];have y:yO true 4 [.int .i64 a,.str s,.str t,.rs (h.next+2) 4 0 xs.length] 0=some (.agg [.int .i64 a,.str s,.str t,.rs (h.next+2) 4 0 xs.length]):=zJ rfl ow;simp only[go_sem,Nat.reduceEqDiff,↓reduceIte,m,n,c,d,v,y];rw[ql (cs':=[.int .i64 a,.str s,.str t,.rs (h.next+2) 4 0 xs.length]) A jq rfl jS rfl];simp only[go_sem,y];refine⟨h.next+2,xs.flatten,by simp[Heap.set,B],(g.set ow _).del ow,?_⟩;have E:cq (h.next+2) xs.flatten [.int .i64 a,.str s,.str t,.rs (h.next+2) 4 0 xs.length]= [.int .i64 a,.str s,.str t,.sl 4 xs .no]:=by
     simp only[cq,XM l rfl rfl];rfl
    have F:z=.sl 4 xs .no:=by
     rcases w with rfl|rfl
     .rcases C with⟨_,h1⟩ | ⟨tk,h1⟩
      .exact absurd h1 h0
      .cases h1
     .rfl
    subst F;rw[frz,E,qM,u.2.2];exact⟨tI (yM _) _ u.2.1,rfl⟩
def MY{c:List D}(A:Shp prog k 57 c):∃ (j:Nat) (h i m n d:Int) (s1 s2 f g:List UInt8) (b:Bool) (e l:D) (a:List (List D)),j<k/\c= [.int .i64 h,.str s1,.str s2,.int .i64 i,.int .i64 m,.int .i64 n,.bool b,.int .i64 d,.str f,.str g,e,l]/\
  Shp prog j 55 [.int .i64 d,.str f,.str g,e]/\yZ 1 a l/\(l=.nilsl\/l=.sl 1 a .no)/\a.length<=1048576/\(∀x∈a,uA x)/\∀x∈a,x.length=1:=by
 obtain⟨j,B,hf⟩:=ui underlying57 A;obtain⟨C,r1,rfl,h1,hf⟩:=yQ hf;obtain⟨E,r2,rfl,u,hf⟩:=yQ hf;obtain⟨F,r3,rfl,h3,hf⟩:=yQ hf;obtain⟨G,r4,rfl,v,hf⟩:=yQ hf;obtain⟨H,r5,rfl,h5,hf⟩:=yQ hf;obtain⟨I,r6,rfl,w,hf⟩:=yQ hf;obtain⟨J,r7,rfl,y,hf⟩:=yQ hf;obtain⟨K,r8,rfl,q,hf⟩:=yQ hf;obtain⟨L,r9,rfl,z,hf⟩:=yQ hf;obtain rfl:=rG hf;obtain⟨h,rfl,_⟩:=sx underlying3 h1;obtain⟨s1,rfl,_⟩:=tt underlying9 u;obtain⟨s2,rfl,_⟩:=tt underlying9 h3;obtain⟨i,rfl,_⟩:=sx underlying3 v;obtain⟨m,rfl,_⟩:=sx underlying3 h5;obtain⟨n,rfl,_⟩:=sx underlying3 w;obtain⟨b,rfl⟩:=MX underlying4 y;obtain⟨_,d,f,g,e,_,_,rfl,_⟩:=U7 q
 obtain⟨l,a,M,rfl,_,r,s,t,p⟩:=nh underlying45 pK z;exact⟨j,h,i,m,n,d,s1,s2,f,g,b,e,l,a,B,rfl,q,r,s,t,λx o=>pF _ _ _ (p x o),λx o=>by obtain⟨_,rfl,_⟩:=tt underlying9 (p x o);rfl⟩
def Zs{c:List D}(a:Shp prog k 57 c):c.length=12:=by
 obtain⟨_,_,_,_,_,_,_,_,_,_,_,_,_,_,_,rfl,_⟩:=MY a;rfl
def NX(x f:D)(h:Heap)(b:x.notTuple=true)(hf:f.notTuple=true)(a:x.cells= [x])(cf:f.cells= [f]):zD prog 77 [x,f] h λr h'=>h'=h/\r=.fn (.func 131) [] [.iptr [f] 0,.iptr [x] 0]:=by
 refine zj zNp ?_;simp only[f77,zA];simp only[go_sem,Nat.reduceEqDiff,↓reduceIte,b,hf,a,cf]
def mv(xs:List (List D))(ks:List Int):List (List D):=ks.map λk=>xs.getD k.toNat []
def Tw{x f:D}{ks:List Int}(hx:yZ 12 xs x)(ai:∀c∈xs,∃k,Shp prog k 57 c)(hf:yZ 1 (wt ks) f)(aj:ks.length<=1048576)(U:∀n∈ks,0<=n/\n.toNat<xs.length){Y:Nat->(Nat->Prop)->Heap->Prop}{Z:(Nat->Prop)->Heap->Prop}(y:Yld prog id ks.length (λi=>[.agg ((mv xs ks).getD i [])]) Y Z)(hY:Y 0 S h):
  zD prog 131 [.yld id,.iptr [f] 0,.iptr [x] 0] h λ_ h'=>∃S',But S h h'/\(Y ks.length S' h'\/Z S' h'):=by
 refine zj zFN ?_;simp only[f131,zA];have P:((wt ks).length:Int)=ks.length:=by rw[wE]
 simp only[go_sem,Nat.reduceEqDiff,↓reduceIte,wL hf underlying30,P];refine qn (λi fr h'=>fr 0=.yld id/\fr 2=.iptr [x] 0/\fr 7=f/\fr 8=.int .i64 ks.length/\fr 9=.int .i64 (i:Int)/\∃S',(∀j,S' j->S j\/h.next<=j)/\But S h h'/\Y i S' h') ks.length ?_ ?_
 .simp only[go_sem,Nat.reduceEqDiff,↓reduceIte,zM]
  exact⟨rfl,S,λj s=>.inl s,But.refl S h,hY⟩
 rintro i fr h' hi ⟨E,F,G,H,I,S',hS,g,u⟩;simp only[go_sem,Nat.reduceEqDiff,↓reduceIte,E,F,G,H,I];by_cases d:i<ks.length
 .rw[zR (by exact_mod_cast d)]
  obtain⟨R,T⟩:=U _ (zH d);obtain⟨c,N⟩:∃c,xs[ks[i].toNat]? =some c:=⟨_,zB T⟩;have hm:c∈xs:=zh N;have O:(mv xs ks).getD i []=c:=by simp[mv,d,N]
  have z:=Wl hx fU dm (k:=.i64) R N;obtain⟨k,q⟩:=ai c hm;have t:=pF _ _ _ q;have v:=Zs q;obtain⟨j,a1,a2,a3,a4,a5,s1,s2,s3,s4,b,kd,l,ls,s,o,he,V,W,X,A,ad⟩:=MY q;have hw:yO true 12 c 0=some (.agg c):=zJ v ow;have B:yO true 4 c 7=some (.agg [.int .i64 a5,.str s3,.str s4,kd]):=by rw[o];rfl
  have C:c[11]? =some l:=by rw[o];rfl
  have ag:∀(h:Heap)(id:Nat),yW prog 57 (.ptr id 0) (.agg c) (h.new id (.row [.int .i64 0,.str [],.str [],.int .i64 0,.int .i64 0,.int .i64 0,.bool false,.int .i64 0,.str [],.str [],.nilsl,.nilsl]))=some (h.new id (.row c)):=λh id=>ym dm ow rfl v t.1;simp only[go_sem,Nat.reduceEqDiff,↓reduceIte,E,F,G,H,I,yR hf wA sG (fY d),wI,z,hw,ag];refine yq _ (pwt [0,1,3] ((4,.st,true)::(pwt [2,6,5] (pwf [7,8,9] [])))) kr kr (λ_ _ e=>e) ?_;simp only[go_sem,Nat.reduceEqDiff,↓reduceIte,E,F,G,H,I,yH,Nat.reduceAdd,wI,B,C];have a:qM l=l/\l.cells= [l]:=by
   rcases W with rfl|rfl
   .exact⟨rfl,rfl⟩
   .exact⟨(qY A _).1,rfl⟩
  refine(zJS j _ he _).mono ?_;rintro r h2 ⟨rfl,rfl⟩;simp only[go_sem];refine(Ki V A ad X _).mono ?_;rintro r h2 ⟨rfl,rfl⟩;rw[a.1,NJ (z5 _ _ _) jq B t.1];simp only[go_sem];rw[Qf (z5 _ _ _) Me C a.2 t.1];simp only[go_sem,hw];have p:Ext h' (h'.new h'.next (.row c)):=(Ext.refl h').new (zC _) _;have w:=y.go i S' _ d (y.ext u p);simp only[O]at w;refine w.mono ?_;rintro r h3 ⟨S2,J,M,hr⟩;have m:But S h h3:=by
   exact(g.trans (p.but S) λi hi=>.inl hi).trans M hS
  rcases hr with⟨rfl,K⟩ | ⟨rfl,L⟩
  .simp only[vun,go_sem]
   refine⟨d,by rw[qH jL],S2,λj s=> ?_,m,K⟩;rcases J j s with s|s
   .exact hS j s
   .have h1:=g.1
    have h2:=p.1;exact .inr ow
  .simp only[vun,go_sem]
   exact⟨S2,m,.inr L⟩
 .have Q:i=ks.length:=ow
  subst Q;rw[zN ow];simp only[go_sem,Nat.reduceEqDiff,↓reduceIte];exact⟨S',g,.inl u⟩
theorem F8{x f:D}{ks:List Int}(hx:yZ 12 xs x)(I:∀c∈xs,∃k,Shp prog k 57 c)(hf:yZ 1 (wt ks) f)(C:ks.length<=1048576)(A:∀n∈ks,0<=n/\n.toNat<xs.length)(h:Heap):
  zD prog 34 [x,f] h λr h'=>h'=h/\Fin 12 (mv xs ks) r:=by
 have Z:x.cells= [x]/\x.notTuple=true:=by rcases hx with⟨rfl,_⟩ | ⟨tk,rfl⟩ <;>exact⟨rfl,rfl⟩
 have cf:f.cells= [f]/\f.notTuple=true:=by rcases hf with⟨rfl,_⟩ | ⟨tk,rfl⟩ <;>exact⟨rfl,rfl⟩
 refine xU kr λad=>xS ?_;refine zj zK6 ?_;simp only[f34,zA];simp only[go_sem,Nat.reduceEqDiff,↓reduceIte];refine(NX x f _ Z.2 cf.2 Z.1 cf.1).mono ?_;rintro r w ⟨rfl,rfl⟩;simp only[go_sem,Nat.reduceEqDiff,↓reduceIte];simp only[za];generalize P:LRec.mk _ _ _ _ _ _ _=L;have W:∀c∈mv xs ks,∃c',c'∈xs/\c=c':=λc l=>by
  obtain⟨n,U,rfl⟩:=zS.1 l;obtain⟨h1,w⟩:=A n U;exact⟨xs[n.toNat],zH w,by simp[w]⟩
 have V:(mv xs ks).length=ks.length:=zI ..;have F:∀c∈mv xs ks,∃k,Shp prog k 57 c:=λc l=>by obtain⟨c',h1,rfl⟩:=W c l;exact I _ h1
 have y:Yld prog (h.next+1) ks.length (λi=>[.agg ((mv xs ks).getD i [])]) (BV h.next 12 L (mv xs ks)) (λ_ _=>False):=by
  refine⟨λk S h y=>y.here,λk S h h' y U hk=>y.loc U hk,λS h J=>J.elim,λS h h' J=>J.elim,λi S h3 hi hy=> ?_⟩;obtain⟨c,l⟩:∃c,(mv xs ks)[i]? =some c:=⟨_,zB ow⟩;have T:=zh l;obtain⟨_,E⟩:=F c T;have m:=Zs E;have R:=(pF _ _ _ E).1;have z:(mv xs ks).getD i []=c:=by rw[zE,l];rfl
  simp only[z];obtain⟨g1,u,d,O,v,s⟩:=hy;subst P;refine wo.round (g:=zOL) mix u rfl kr kr kr ?_;simp only[go_sem,Nat.reduceEqDiff,↓reduceIte];rw[ym dm ow rfl m R];simp only[go_sem];refine⟨by rw[zf ow];exact u,?_⟩;generalize hB:LRec.mk .busy _ _ _ _ _ _=B;generalize a:Heap.set (h3.new h3.next (.row c)) (h.next+1) (.loop B)=h5;have t:h5.at' h.next=some (.row [d]):=by rw[<-a,zX ow,zf ow];exact O
  have a2:h5.at' h3.next=some (.row c):=by rw[<-a,zX ow,z5]
  have X:h5.at' (h.next+1)=some (.loop B):=by rw[<-a];simp[Heap.set]
  have a4:h5.next=h3.next+1:=by rw[<-a,yY,za]
  have K:rJ h5 12 ((mv xs ks).take i) d:=v.loc ow λj b=>by
   have:=v.tok b;rw[<-a,zX (λe=>by subst e;rw[u]at this;cases this.2),zf ow]
  have hw:yO true 12 c 0=some (.agg c):=zJ m ow;simp only[t,a2,go_sem,Nat.reduceEqDiff,↓reduceIte,wI,hw];rw[qd (x:=.agg c) fU Ms dm rfl rfl ow ow rfl m];simp only[go_sem,↓reduceIte,Nat.reduceEqDiff];have H:((mv xs ks).take i).length=i:=by rw[yB];omega
  refine K.app2 fU Hc dm ow (by simpa using m) jS (by rw[H,Tq];unfold lim;simp;omega) (by rw[H];unfold lim;simp;omega) ?_;intro N h6 b1 b2 M Y b5 b6;have c1:h6.at' h.next=some (.row [d]):=by
   rw[M _ ow λG=> ?_]
   .exact t
   .have:=(K.tok G).2
    rw[t]at this;cases this
  rw[yN c1 zHA jS b5 b6];simp only[go_sem,tY];have c2:(h6.set h.next (.row [N])).at' (h.next+1)=some (.loop B):=by
   rw[zX ow,M _ ow λG=> ?_]
   .exact X
   .have:=(K.tok G).2
    rw[X]at this;cases this
  refine tj c2 ⟨λj=>j=h.next\/j=h.next+1\/tu N j,λj b=> ?_,⟨by simp only[go_sem];omega,λj b Q=> ?_⟩,.inl ⟨rfl,by simp only[go_sem];omega,?_,N,?_,?_,λj=>Iff.rfl⟩⟩
  .rcases b with rfl|rfl|b
   .exact .inl ((s _).2 (.inl rfl))
   .exact .inl ((s _).2 (.inr (.inl rfl)))
   .exact .inr (by have:=Y j b;omega)
  .have n1:j≠h.next:=λe=>Q ((s j).2 (.inl e))
   have n2:j≠h.next+1:=λe=>Q ((s j).2 (.inr (.inl e)));rw[zX n2,zX n1,M j ow (λG=>Q ((s j).2 (.inr (.inr G)))),<-a,zX n2,zf ow]
  .rw[zW,<-hB]
  .rw[zX ow,zW]
  .have:(mv xs ks).take (i+1)=(mv xs ks).take i++ [c]:=by rw[List.take_add_one,l];rfl
   rw[this];refine b1.loc (zC _) λj b=> ?_;have:=Y j b;rw[zX ow,zX ow]
 refine(Tw hx I hf C A y (S:=λi=>i=h.next\/i=h.next+1) (h:=(h.new h.next (.row [.nilsl])).new (h.next+1) (.loop L)) ?_).mono ?_
 .refine⟨?_,z5 _ _ _,.nilsl,by rw[zf ow,z5],.inl ⟨rfl,rfl⟩,λj=>by simp[tu]⟩
  rw[qG _ (by rw[za];exact zC _)];omega
 rintro r w ⟨S',hb,hY|J⟩
 .obtain⟨g1,u,d,O,v,s⟩:=hY
  have p:(mv xs ks).take ks.length=mv xs ks:=by rw[<-V,yC]
  rw[p]at v;refine⟨L,u,?_,?_⟩
  .rw[<-P];intro e;cases e
  have hp:L.pending=none:=by rw[<-P]
  rw[hp,rp];have t:(w.del (h.next+1)).at' h.next=some (.row [d]):=by rw[wM ow];exact O
  simp only[go_sem,Nat.reduceEqDiff,↓reduceIte,t,wI];have o:=v.fin λc l=>by
   obtain⟨_,q⟩:=F c l;exact pF _ _ _ q
  refine⟨Ext.del (Ext.of_but (((Ext.refl h).new (zC _) _).new ow _) hb λj b=> ?_) ow,qQ (yM _) _ o.1,o.2⟩;rcases b with rfl|rfl<;>omega
 .exact J.elim
def Kw{x f:D}(l:yZ 12 xs x)(b:∀c∈xs,∃k,Shp prog k 57 c)(hf:yZ 1 (wt []) f)(h:Heap):
  zD prog 34 [x,f] h λr h'=>h'=h/\r=.nilsl:=by
 have d:x.cells= [x]/\x.notTuple=true:=by rcases l with⟨rfl,_⟩ | ⟨tk,rfl⟩ <;>exact⟨rfl,rfl⟩
 have cf:f.cells= [f]/\f.notTuple=true:=by rcases hf with⟨rfl,_⟩ | ⟨tk,rfl⟩ <;>exact⟨rfl,rfl⟩
 refine xU kr λt=>xS ?_;refine zj zK6 ?_;refine(NX x f _ d.2 cf.2 d.1 cf.1).mono ?_;rintro r e ⟨rfl,rfl⟩;simp only[go_sem,Nat.reduceEqDiff,↓reduceIte];simp only[za];generalize p:LRec.mk _ _ _ _ _ _ _=L;have y:Yld prog (h.next+1) ([]:List Int).length (λi=>[.agg ((mv xs []).getD i [])]) (λ_ S h'=>h.next+1<h'.next/\h'.at' h.next=some (.row [.nilsl])/\h'.at' (h.next+1)=some (.loop L)/\∀j,S j↔(j=h.next\/j=h.next+1)) (λ_ _=>False):=by
  refine⟨λk S h' y i g=> ?_,λk S h1 h' y B A=> ?_,λS h' a=>a.elim,λS h1 h' a=>a.elim,λi S h3 g C=>absurd g (yX _)⟩
  all_goals grind
 refine(Tw l b hf jS jS y (S:=λi=>i=h.next\/i=h.next+1) (h:=(h.new h.next (.row [.nilsl])).new (h.next+1) (.loop L)) ?_).mono ?_
 .grind [zf,z5,qG,za]
 rintro r e ⟨S',s,q|a⟩
 .obtain⟨v,o,n,w⟩:=q
  refine⟨L,n,?_,?_⟩
  .grind
  have u:L.pending=none:=by rw[<-p]
  rw[u,rp];have m:(e.del (h.next+1)).at' h.next=some (.row [.nilsl]):=by rw[wM ow];exact o
  simp only[go_sem,Nat.reduceEqDiff,↓reduceIte,m,wI];refine⟨Ext.del (Ext.of_but (((Ext.refl h).new (zC _) _).new ow _) s λj z=> ?_) ow,trivial,rfl⟩
  grind
 .exact a.elim
def Bw(b:yZ 12 xs x)(n:Int)(h:Heap):zD prog 41 [.int .i64 n,.iptr [x] 0] h λr h'=>h'=h/\r=.bool (decide (n<0)||decide (n>=(xs.length:Int))):=by
 refine zj zNf ?_;simp only[f41,zA];cases a:decide (n<0)with
 |true=>simp only[go_sem,Nat.reduceEqDiff,↓reduceIte,a]
 |false=>simp only[go_sem,Nat.reduceEqDiff,↓reduceIte,a,wI,wL b underlying29]
def T8{ks:List Int}{f:D}(hf:yZ 1 (wt ks) f)(t:ks.length<=1048576){g:FuncId}{p:Int->Bool}(v:∀n∈ks,∀h,zD prog g ([.int .i64 n]++cap) h λr h'=>h'=h/\r=.bool (p n))(h:Heap):
  zD prog 86 [f,.fn (.func g) [] cap] h λr h'=>h'=h/\r=.int .i64 (match ks.findIdx? p with|some i=>(i:Int)|none=> -1):=by
 refine zj zLU ?_;simp only[f86,zA];have e:((wt ks).length:Int)=ks.length:=by rw[wE]
 simp only[go_sem,Nat.reduceEqDiff,↓reduceIte,wL hf underlying30,e];refine qn (λi fr h'=>fr 0=f/\fr 1=.fn (.func g) [] cap/\fr 7=.int .i64 ks.length/\fr 8=.int .i64 (i:Int)/\h'=h/\∀j (d:j<ks.length),j<i->p ks[j]=false) ks.length (by simp[go_sem]) ?_;rintro i fr h' x ⟨l,m,o,q,rfl,d⟩;simp only[go_sem,Nat.reduceEqDiff,↓reduceIte,l,m,o,q];by_cases b:i<ks.length
 .rw[zR (by exact_mod_cast b)]
  simp only[go_sem,Nat.reduceEqDiff,↓reduceIte,l,m,o,q,yR hf wA sG (fY b),wI];refine(v _ (zH b) _).mono ?_;rintro r w ⟨rfl,rfl⟩;cases s:p ks[i]with
  |true=>
   simp only[go_sem,Nat.reduceEqDiff,↓reduceIte]
   have:ks.findIdx? p=some i:=by
    rw[qw];exact⟨b,s,λj a=>by rw[d j ow a];exact zd⟩
   rw[this]
  |false=>
   simp only[go_sem,Nat.reduceEqDiff,↓reduceIte];refine⟨b,by rw[qH jL],λj c a=> ?_⟩;rcases zp.1 a with a|rfl
   .exact d j c a
   .exact s
 .have k:i=ks.length:=ow
  subst k;rw[zN ow];simp only[go_sem,Nat.reduceEqDiff,↓reduceIte]
  have:ks.findIdx? p=none:=by
   rw[uV];intro n u;obtain⟨j,c,rfl⟩:=zz.1 u;exact d j c c
  rw[this]
def Yu{ks:List Int}{f:D}(hf:yZ 1 (wt ks) f)(a:ks.length<=1048576){g:FuncId}{p:Int->Bool}(c:∀n∈ks,∀h,zD prog g ([.int .i64 n]++cap) h λr h'=>h'=h/\r=.bool (p n))(h:Heap):
  zD prog 40 [f,.fn (.func g) [] cap] h λr h'=>h'=h/\r=.bool (ks.any p):=by
 refine zj zLO ?_;simp only[f40,zA];simp only[go_sem,Nat.reduceEqDiff,↓reduceIte];refine(T8 hf a c _).mono ?_;rintro r j ⟨rfl,rfl⟩;simp only[go_sem,Nat.reduceEqDiff,↓reduceIte];cases b:ks.findIdx? p with
 |none=>
  have:ks.any p=false:=by
   rw[uV]at b;rw[oL];intro n e;rw[b n e];exact zd
  rw[this];rfl
 |some i=>
  have:ks.any p=true:=by
   rw[qw]at b;obtain⟨d,c,_⟩:=b;exact yu.2 ⟨_,zH d,c⟩
  rw[this];simp
def WV(n:Nat)(k:Int):Bool:=decide (k<0)||decide (k>=(n:Int))
def zB9(ks:List Int):Prop:=∀i (h:i+1<ks.length),ks[i]<ks[i+1]
def zIy(xs:List (List D))(ks:List Int)(r:D):Prop:=
 (ks.any (WV xs.length)=true/\r=.tuple [.nilsl,.int .i64 3])\/
 (ks.any (WV xs.length)=false/\¬zB9 ks/\r=.tuple [.nilsl,.int .i64 5])\/
 (ks.any (WV xs.length)=false/\zB9 ks/\∃p,Fin 12 (mv xs ks) p/\r=.tuple [p,.int .i64 0])
def Jk{ks:List Int}(h:ks.any (WV n)=false):∀k∈ks,0<=k/\k.toNat<n:=λk a=>by
 have:=oL.1 h k a;simp only[WV,yn,zO,bg]at this;omega
def F7{x f:D}{ks:List Int}(v:yZ 12 xs x)(w:∀c∈xs,∃k,Shp prog k 57 c)(hf:yZ 1 (wt ks) f)(b:ks.length<=1048576)(y:∀n∈ks,fits .i64 n)(h:Heap):
  zD prog 13 [x,f] h λr h'=>h'=h/\zIy xs ks r:=by
 have z:x.cells= [x]/\x.notTuple=true:=by rcases v with⟨rfl,_⟩ | ⟨tk,rfl⟩ <;>exact⟨rfl,rfl⟩
 refine zj zNb ?_;simp only[f13,zA];simp only[go_sem,Nat.reduceEqDiff,↓reduceIte,z];refine(Yu hf b (p:=WV xs.length) (λn _ h=>Bw v n h) _).mono ?_;rintro r A ⟨rfl,rfl⟩;cases t:ks.any (WV xs.length)with
 |true=>
  simp only[go_sem,Nat.reduceEqDiff,↓reduceIte];exact .inl ⟨t,rfl⟩
 |false=>
  have d:=Jk t;simp only[go_sem,Nat.reduceEqDiff,↓reduceIte];refine qn (λi fr h'=>fr 1=f/\fr 2=.iptr [x] 0/\fr 6=.int .i64 ((i+1:Nat):Int)/\h'=A/\∀j (l:j+1<ks.length),j<i->ks[j]<ks[j+1]) ks.length ?_ ?_
  .simp only[go_sem,Nat.reduceEqDiff,↓reduceIte]
   exact⟨rfl,λj _ l=>absurd l (yX _)⟩
  rintro i fr h' E ⟨m,o,q,rfl,a⟩;have u:((wt ks).length:Int)=ks.length:=by rw[wE]
  simp only[go_sem,Nat.reduceEqDiff,↓reduceIte,m,o,q,wL hf underlying30,u];by_cases g:i+1<ks.length
  .rw[zR (by exact_mod_cast g)]
   have C:IntKind.i64.wrap (((i+1:Nat):Int)-1)=((i:Nat):Int):=by rw[qP ow ow];omega
   simp only[go_sem,Nat.reduceEqDiff,↓reduceIte,m,o,q];refine yJ kr ?_;simp only[go_sem,Nat.reduceEqDiff,↓reduceIte,m,o,q,yR hf wA sG (fY g),C,yR hf wA sG (fY (show i<ks.length by omega)),wI];cases s:decide (ks[i+1]<=ks[i])with
   |true=>
    simp only[go_sem,Nat.reduceEqDiff,↓reduceIte];refine .inr (.inl ⟨t,λB=> ?_,rfl⟩);have:=B i g;have:=yE s;omega
   |false=>
    simp only[go_sem,Nat.reduceEqDiff,↓reduceIte,m,o,q];refine⟨ow,by rw[qH jL],λj l e=> ?_⟩;rcases zp.1 e with e|rfl
    .exact a j l e
    .have:=yA s
     omega
  .rw[zN ow]
   simp only[go_sem,Nat.reduceEqDiff,↓reduceIte,m,o,q,wI];refine(F8 v w hf b d _).mono ?_;rintro r h3 ⟨rfl,hr⟩;simp only[go_sem,Nat.reduceEqDiff,↓reduceIte];exact .inr (.inr ⟨t,λj l=>a j l ow,r,hr,rfl⟩)
end Go.V
