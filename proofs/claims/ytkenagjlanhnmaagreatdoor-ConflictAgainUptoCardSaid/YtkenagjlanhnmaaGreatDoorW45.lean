/- Contracts of functions that the law reaches, part 4. No condition. -/
import Derived.Test.YtkenagjlanhnmaaGreatDoorW44
set_option linter.all false
set_option maxHeartbeats 8000000
namespace Go.V
open Go.Proofs.Tryz
open Go.Proofs
set_option maxRecDepth 100000
def zQG{l m:List Int}{d e:D}(A:yi 1 (wY l) d)(B:yi 1 (wY m) e)(K:l.length<=1048576)(g:Heap):
  zE prog 20 [d,e] g λr h'=>h'=g/\r=.bool (l==m):=by
 refine xP λQ x=> ?_;have F:=nQ A;have G:=nQ B;have b:(l==m)=false->Q (.bool false) g:=λq=>x _ _ ⟨rfl,by rw[q]⟩;have a:(l==m)=true->Q (.bool true) g:=λq=>x _ _ ⟨rfl,by rw[q]⟩;clear x;refine zu zOY ?_;simp only[f20,zA];cases f:((l.length:Int)==(m.length:Int))with
 |false=>
  have c:=b (by rw[yr];rintro rfl;simp at f);clear b a
  repeat' first|simp only[go_sem, *]|apply bc<;>intro s
 |true=>
  have h:l.length<=m.length/\m.length<=l.length:=by
   have:(l.length:Int)=m.length:=by simpa using f
   omega
  repeat' first|simp only[go_sem, *]|apply bc<;>intro s
  refine zd (λi fr h'=>fr 0=d/\fr 1=e/\fr 12=.int .i64 l.length/\fr 13=.int .i64 (i:Int)/\h'=g/\l.take i=m.take i) l.length ow ?_ ?_ ?_
  ·simp only[go_sem,zT,zV,zI];rfl
  ·rintro i fr h' p e1 J ⟨C,E,t,u,y,o⟩;subst y;have j:i<m.length:=ow;have H:=gV A p;have I:=gV B j;have n:l[i]=m[i]->l.take (i+1)=m.take (i+1):=λq=>by rw[zQ p,zQ j,o,q]
   have k:l[i]≠m[i]->(l==m)=false:=λq=>by rw[yr];rintro rfl;exact q rfl
   clear f h o a;generalize l[i]=v at *
   generalize m[i]=w at *
   cases z:(v==w)with
   |false=>
    have c:=b (k (by simpa using z));clear b k n
    repeat' first|simp only[go_sem, *]|apply bc<;>intro s
    refine yI kr ?_
    repeat' first|simp only[go_sem, *]|apply bc<;>intro s
   |true=>
    have c:=n (by simpa using z);clear b k n
    repeat' first|simp only[go_sem, *]|apply bc<;>intro s
    refine yI kr ?_;exact au
  ·rintro fr h' e1 ⟨C,E,t,u,y,o⟩;subst y;rw[z6,yV ow]at o;have c:=a (by rw[o];simp);clear b a f h o;exact au
section
variable{c:Cat}{fs gs:List Fac}
theorem zQF(a:∀j,j<fs.length->ZF c (fs.eraseIdx j)=false):∀k,k<=fs.length->Ma c fs k (List.range fs.length)=List.range fs.length
 |0,_=>rfl
 |k+1,h=>by
  have e:ZF c (yG fs ((List.range fs.length).eraseIdx k))=false:=by
   rw[<-RU (λi b=>qT.1 b),W5];exact a k ow
  unfold Ma;rw[e,iq zZ];exact zQF a k ow
theorem zQE(a:∀j,j<fs.length->ZF c (fs.eraseIdx j)=false):fg c fs=List.range fs.length:=by
 have:=zQF a fs.length (zD _);unfold fg FN;rw[pD];exact this
theorem zP8{I:List Nat}(h:∀i∈I,i<fs.length):yG (fs++gs) I=yG fs I:=by
 unfold yG;refine UQ λi a=> ?_;rw[yg (h i a)]
theorem zQA:∀k I,(∀i∈I,i<fs.length)->Ma c (fs++gs) k I=Ma c fs k I
 |0,I,_=>rfl
 |k+1,I,h=>by
  have a:∀i∈I.eraseIdx k,i<fs.length:=λi b=>h i (List.mem_of_mem_eraseIdx b);unfold Ma;rw[zP8 a];split
  ·exact zQA k _ a
  ·exact zQA k _ h
theorem zQC(hr:ZF c fs=true)(h0:ql c (fs++gs)=0):∀m,m<=gs.length->Ma c (fs++gs) (fs.length+m) (List.range (fs.length+m))=Ma c fs fs.length (List.range fs.length)
 |0,_=>zQA _ _ λi a=>qT.1 a
 |m+1,h=>by
  have e:(List.range (fs.length+m+1)).eraseIdx (fs.length+m)=List.range (fs.length+m):=by
   rw[mf,List.eraseIdx_append_of_length_le (by simp)];simp
  have f:fs.Sublist (yG (fs++gs) (List.range (fs.length+m))):=by
   have h1:(List.range fs.length).Sublist (List.range (fs.length+m)):=List.range_sublist.2 ow;have:=PK (fs:=fs++gs) h1
   rwa [zP8 (λi a=>qT.1 a),W5]at this
  have b:InI (fs++gs) (List.range (fs.length+m)):=⟨λi a=>by have:=qT.1 a;rw[zR];omega,List.pairwise_lt_range⟩;have d:ZF c (yG (fs++gs) (List.range (fs.length+m)))=true:=MQ f (PC h0 b.sub) hr;have e2:Ma c (fs++gs) (fs.length+m+1) (List.range (fs.length+m+1))=Ma c (fs++gs) (fs.length+m) (List.range (fs.length+m)):=by
   rw[Ma,e,d,ip rfl]
  exact e2.trans (zQC hr h0 m ow)
theorem zQH(hr:ZF c fs=true)(h0:ql c (fs++gs)=0):fg c (fs++gs)=fg c fs:=by
 have:=zQC hr h0 gs.length (zD _);unfold fg FN;rw[pD,pD,zR];exact this
theorem zQI(hr:ZF c fs=true)(h0:ql c (fs++gs)=0):ZF c (fs++gs)=true:=MQ (List.sublist_append_left _ _) h0 hr
end
theorem zP9:Qg prog D5 f16=true:=kr
theorem zP7{l:List Fac} :∀x∈mV l,x.length=12:=λx a=>by
 obtain⟨f,_,rfl⟩:=zM.1 a;rfl
theorem zP6(l m:List Fac):mV (l++m)=mV l++mV m:=wH
theorem zQD{fs:List Fac}(h0:fs≠[])(i:fs.length<=65536){x:D}(f:yi 12 (mV fs) x)(h:Heap):zE prog 16 [x] h λr h'=>r=.sl 12 (mV fs) (.own h.next)/\h'=h.new h.next .tok:=by
 have b:mV fs≠[]:=λe=>h0 (by simpa [mV]using e);obtain⟨tk,rfl⟩:∃tk,x=.sl 12 (mV fs) tk:=by
  rcases f with⟨_,e⟩ |h
  ·exact absurd e b
  ·exact h
 have d:∀c,jI prog .eql 29 c (.sl 12 (mV fs) tk) .nilsl=some (.bool false):=λc=>by rw[tI (yi.mk tk) underlying29];rfl
 have a:(mV fs).length=fs.length:=cH fs;refine xO mix func16 zP9 rfl rfl ?_;simp only[f16,zA];simp only[go_sem,Nat.reduceEqDiff,↓reduceIte,d,muI,u9,Nat.reduceBEq,wc YJ Ff Zv rfl rfl (by omega:0<12)];rw[l8 YJ zBB Zv ow zP7 (by rw[Kj,a];unfold lim;omega) (by rw[a];unfold lim;omega)];rw[iq (λe=>b (yM.1 e))];simp only[go_sem]
theorem zQJ{fd rd wd:D}(h1:fd.flat=true)(a:rd.flat=true)(h3:wd.flat=true)(h:Heap)(n:Nat):yX prog 35 (.ptr n 0) (.agg [fd,rd,wd]) (h.new n (.row [.nilsl,.nilsl,.nilsl]))=some (h.new n (.row [fd,rd,wd])):=qK Vn ow rfl rfl (by simp[h1,a,h3])
theorem zQK(h:Heap)(sz:Nat)(xs:List (List D)):Own h (h.new h.next .tok) sz xs (.sl sz xs (.own h.next)):=⟨(Ext.refl _).new (zD _) _,.inr ⟨_,rfl,z8 _ _ _,by rw[za];omega⟩,λi a=>by cases a;exact zD _⟩
theorem zQB{fs:List Fac}(h0:fs≠[])(c:fs.length<=65536){x:D}(d:yi 12 (mV fs) x)(h:Heap):zE prog 16 [x] h λr h'=>Own h h' 12 (mV fs) r:=(zQD h0 c d h).mono λr h' ⟨a,b⟩=>by
 subst a b;exact zQK h 12 (mV fs)
theorem ck{c:Cat}{d x y:D}(t:uc c d)(O:c.Sm){fs a:List Fac}(hx:yi 12 (mV fs) x)(hl:fs.length<=1048576)(J:∀f∈fs,f.Ok0)(M:ShF fs)(hy:yi 12 (mV a) y)(cg:a.length<=1048576)(A:∀f∈a,f.Ok0)(U:ShF a)(g:Heap):zE prog 5 [d,x,y] g λr _=>r=.bool true:=by
 refine xP λQ hQ=> ?_;have hT:∀h,Q (.bool true) h:=λh=>hQ _ _ rfl;have a6:=Z4;have bo:=Kk t O hx hl J;have ba:=K9 t O hy cg A;have c2:=pi hy;obtain⟨ca,cb,ce,cp,rfl,_,_,_,_⟩:=id t;clear hQ;refine zu ok5 ?_;simp only[f5,zA]
 repeat' first|simp only[go_sem, *]|apply bc<;>intro t|(refine zE.mono (a6 _) ?_;rintro r h ⟨rfl,v⟩)
 refine(bo _).mono ?_;rintro r h ⟨v,b,rfl,N⟩;subst v;clear a6 bo;cases b with
 |false=>
  clear N
  repeat' first|simp only[go_sem, *]|apply bc<;>intro t
 |true=>
 have N:=(N rfl).1;cases h8:decide ((a.length:Int)>8)with
 |true=>
  clear N
  repeat' first|simp only[go_sem, *]|apply bc<;>intro t
 |false=>
 have a1:a.length<=8:=by have:=yO h8;omega
 repeat' first|simp only[go_sem, *]|apply bc<;>intro t
 refine(ba _).mono ?_;rintro r h ⟨v,b,rfl,w⟩;subst v;clear ba;cases b with
 |false=>
  clear N w
  repeat' first|simp only[go_sem, *]|apply bc<;>intro t
 |true=>
 have w:=(w rfl).1;have Z:=N.few;have k:∀f∈fs,f.Ok:=λf hf=>(J f hf).ok (Z.2 f hf);have E:∀f∈a,f.Ok:=λf hf=>(A f hf).ok (w.2 f hf);obtain⟨n,hn⟩:∃n,h.next=n:=⟨_,rfl⟩;have R:∀(fd rd wd:D)(h:Heap)(n:Nat),fd.flat=true->rd.flat=true->wd.flat=true->yX prog 35 (.ptr n 0) (.agg [fd,rd,wd]) (h.new n (.row [.nilsl,.nilsl,.nilsl]))=some (h.new n (.row [fd,rd,wd])):=λfd rd wd h n h1 h2 h3=>qK Vn ow rfl rfl (by simp[h1,h2,h3]);have b4:=R .nilsl .nilsl .nilsl h n rfl rfl rfl;have c1:∀H,mC prog 30 .nilsl H=some (.int .i64 0):=λH=>wa (yi.nil (sz:=1)) underlying30
 have cx:∀o,(h.new n o).at' n=some o:=λo=>z8 _ _ _;by_cases h0:ql c fs=0
 case neg=>
  have u:=BX t O hx (by have:=Z.1.2;omega) k h0;have e0:(ql c fs==0)=false:=yr.2 h0;clear R Z J k E A h0 N w a1
  repeat' first|simp only[go_sem, *]|apply bc<;>intro t|(refine zE.mono (u _) ?_;rintro r h ⟨v,rfl⟩)
 case pos=>
 have b7:fs.length<=16:=by
  have:=Y5 (TK (lu h0)).1;rcases N.1.1 with q|q<;>omega
 have K:KIn c fs ca cb ce cp x:=⟨t,O,hx,Z,by omega,k,M⟩;have u:=zCG K
 repeat' first|simp only[go_sem, *]|apply bc<;>intro t
 refine(u _).mono ?_;rintro r h2 ⟨v,hr⟩;subst v;rcases hr with⟨e,_⟩ | ⟨_,_,rfl⟩ | ⟨er,wd,rfl,hw⟩
 ·exact absurd h0 e
 ·clear u K N w k E J A a1;exact au
 obtain⟨mr,Y,mm⟩:=AJ h0 er;obtain⟨gs,P⟩:∃gs,yG fs (fg c fs)=gs:=⟨_,rfl⟩;have j:=Y.sub;rw[P]at mr mm j;have c0:gs.length<=16:=zf j.length_le b7;have T:∀f∈gs,f.Ok:=λf hf=>k f (j.subset hf);have F:gs≠[]:=λe=>by
  obtain⟨s,O⟩:=Uk mr;rw[e]at O;cases O
 have bb:fs≠[]:=λe=>F (by rw[e]at j;exact List.sublist_nil.1 j);have cw:(fg c fs).length<=16:=by
  have:=uj Y.lt;rw[P]at this;omega
 have ak:∀g,zE prog 13 [x,tc (fg c fs)] g λr h'=>h'=g/\r=.tuple [.sl 12 (mV gs) .no,.int .i64 0]:=λg=>by
  have hk:=M.s;refine(zCH hx hk (f:=tc (fg c fs)) (ks:=nI (fg c fs)) (yi.mk .no) (by rw[zG];omega) (λz W=> ?_) g).mono λr h' q=>⟨q.1,?_⟩
  ·obtain⟨i,hi,rfl⟩:=zM.1 W;have:=Y.lt i hi;exact PL ow
  ·have hb:(nI (fg c fs)).any (V9 (mV fs).length)=false:=pC.2 λz W=>by
    obtain⟨i,hi,rfl⟩:=zM.1 W;have:=Y.lt i hi;rw[cH];simp[V9];omega
   have b9:zIM (nI (fg c fs)):=λi hi=>by
    rw[zG]at hi;have:=uy.1 Y.inc i (i+1) ow hi ow;simp only[nI,qr];omega
   rcases q.2 with⟨e,_⟩ | ⟨_,e,_⟩ | ⟨_,_,p,hp,e⟩
   ·rw[hb]at e;cases e
   ·exact absurd b9 e
   ·rw[az Y.lt,P]at hp;rcases hp with⟨_,q⟩ |rfl
    ·exact absurd (wv.1 q) F
    ·exact e
 obtain⟨pd,bx,b0⟩:∃pd,pd=D.sl 12 (mV gs) .no/\yi 12 (mV gs) pd:=⟨_,rfl,yi.mk .no⟩;rw[<-bx]at ak;have cc:=pi b0;have K2:KIn c gs ca cb ce cp pd:=⟨t,O,b0,AS Z ow j,by omega,T,⟨λz W=>by
  obtain⟨f,hf,rfl⟩:=zM.1 W;exact M.s _ (List.mem_map_of_mem (j.subset hf))⟩⟩
 have a8:∀g,zE prog 18 [.agg [ca,cb,ce,cp],pd] g λr h'=>h'=g/\∃wd,r=.tuple [.agg [tc (List.range gs.length),Te c (yG gs (List.range gs.length)),wd],.int .i64 0]/\wd.flat=true:=λg=>by
  refine(zCG K2 g).mono λr h' q=>⟨q.1,?_⟩;rcases q.2 with⟨e,_⟩ | ⟨_,e,_⟩ | ⟨_,wd,e,hw⟩
  ·unfold ZF at mr;rw[yr.2 e]at mr;cases mr
  ·rw[mr]at e;cases e
  ·rw[zQE mm]at e;refine⟨wd,e,?_⟩;rcases hw with⟨rfl,_⟩ |rfl<;>rfl
 have a7:=λh=>zQB bb ow hx h;obtain⟨_,_,_,_,_,_,_,x3⟩:=dD c gs;obtain⟨_,_,_,_,_,_,_,x4⟩:=dD c (yG gs (List.range gs.length));have cv:wd.flat=true:=by
  rcases hw with⟨rfl,_⟩ |rfl<;>rfl
 have b2:=R (tc (fg c fs)) (Te c gs) wd h2 n rfl x3 cv;have cf:∀h,mC prog 30 (tc (List.range gs.length)) h=some (.int .i64 (gs.length:Int)):=λh=>by
  have:=nQ (l:=nI (List.range gs.length)) (d:=tc (List.range gs.length)) (yi.mk .no) h
  rwa [zG,pD]at this
 rw[P];generalize Te c gs=rA at *
 generalize Te c (yG gs (List.range gs.length))=rB at *
 have heq:∀g,zE prog 20 [tc (fg c fs),tc (fg c fs)] g λr h'=>h'=g/\r=.bool true:=λg=>by
  refine(zQG (l:=nI (fg c fs)) (m:=nI (fg c fs)) (yi.mk .no) (yi.mk .no) (by rw[zG];omega) g).mono λr h' q=>⟨q.1,?_⟩;rw[q.2,nz]
 obtain⟨G,hG,g1,a3⟩:∃G:Heap,h2.new n (.row [tc (fg c fs),rA,wd])=G/\G.at' n=some (.row [tc (fg c fs),rA,wd])/\G.next=n+1:=⟨_,rfl,z8 _ _ _,by rw[<-hn];exact za _ _⟩;rw[hG]at b2;generalize a9:tc (fg c fs)=fD at *
 generalize b1:tc (List.range gs.length)=rD at *
 clear u K2 hw bx J h0 mr mm Y b4 j T F A R;have L:∀f∈fs++a,f.Ok:=λf hf=>(yp.1 hf).elim (k f) (E f);have bk:(fs++a).length<=24:=by rw[zR];omega
 have ag:∀ad,yi 12 (mV (fs++a)) ad->KIn c (fs++a) ca cb ce cp ad:=λad b8=>⟨t,O,b8,⟨⟨.inl bk,by omega⟩,λf hf=>(yp.1 hf).elim (Z.2 f) (w.2 f)⟩,bk,L,⟨λz W=>by
  rw[zP6]at W;exact(yp.1 W).elim (M.s z) (U.s z)⟩⟩
 clear K k E w Z N M U
 repeat' first|simp only[go_sem, *]|apply bc<;>intro t|(refine zE.mono (ak _) ?_;rintro r h ⟨v,rfl⟩)
 subst v
 rename Heap=>G
 refine(a8 _).mono ?_;rintro r h3 ⟨v,a0,rfl,V⟩;subst v
 rename Heap=>G
 have b3:=zQJ (fd:=rD) (rd:=rB) (wd:=a0) (by rw[<-b1];rfl) x4 V G (n+1);obtain⟨G2,a2,k0,k1,a4⟩:∃G2:Heap,G.new (n+1) (.row [rD,rB,a0])=G2/\G2.at' n=some (.row [fD,rA,wd])/\G2.at' (n+1)=some (.row [rD,rB,a0])/\G2.next=n+2:=⟨_,rfl,by rw[zi ow];exact g1,z8 _ _ _,by rw[<-a3,za];omega⟩;rw[a2]at b3;clear a8 ak hG b2 a2;have c3:(IntKind.i64.wrap (0+0)==0)=true:=by decide
 have c4:((gs.length:Int)==(gs.length:Int))=true:=nz _
 repeat' first|simp only[go_sem, *]|apply bc<;>intro t
 clear b3 cf cc k1 b1 x4 V a3 g1;refine zE.mono (a7 G2) ?_;clear a7;rintro ld H ho
 repeat' first|simp only[go_sem, *]|apply bc<;>intro t
 refine ho.appI YJ zBB Zv ow zP7 hy (by rw[cH,cH,Kj];unfold lim;omega) (by rw[cH,cH];unfold lim;omega) λad X I=> ?_;rw[<-zP6]at I;have ai:=I.isSl;have bs:X.at' n=some (.row [fD,rA,wd]):=by rw[I.1.2 _ ow];exact k0
 have ch:n<X.next:=zq ow I.1.1;have C:=Qz t O ai ow L;unfold XA at C;clear ho I k0 a4 L hy hx;by_cases hA:ql c (fs++a)=0
 case neg=>
  have e0:(ql c (fs++a)==0)=false:=yr.2 hA;rw[iq (by rw[e0];exact zZ)]at C;clear ag hA
  repeat' first|simp only[go_sem, *]|apply bc<;>intro t|(refine zE.mono (C _) ?_;rintro r h ⟨v,rfl⟩)
 case pos=>
 rw[ip (by rw[hA];rfl)]at C;have u:=zCG (ag ad ai);clear ag ai;have hB:∃B,decide ((BF c (fs++a):Int)>300)=B:=⟨_,rfl⟩;obtain⟨B,h3⟩:=hB;cases B with
 |true=>
  clear u hA
  repeat' first|simp only[go_sem, *]|apply bc<;>intro t|(refine zE.mono (C _) ?_;rintro r h ⟨v,rfl⟩)
 |false=>
 repeat' first|simp only[go_sem, *]|apply bc<;>intro t|(refine zE.mono (C _) ?_;rintro r h ⟨v,rfl⟩)
 subst v
 rename Heap=>X
 refine(u _).mono ?_;rintro r h4 ⟨v,hr⟩;subst v
 rename Heap=>X
 rcases hr with⟨e,_⟩ | ⟨_,e,_⟩ | ⟨_,S,rfl,b5⟩
 ·exact absurd hA e
 ·rw[zQI er hA]at e;cases e
 simp only[zQH er hA,a9];have cu:=dD c (yG (fs++a) (fg c fs));obtain⟨_,_,_,_,_,_,_,x5⟩:=cu;have b6:S.flat=true:=by
  rcases b5 with⟨rfl,_⟩ |rfl<;>rfl
 have cm:∃rC,Te c (yG (fs++a) (fg c fs))=rC:=⟨_,rfl⟩;obtain⟨rC,cl⟩:=cm;simp only[cl]at x5⊢;have hm:∃m,X.next=m:=⟨_,rfl⟩;obtain⟨m,hm⟩:=hm;have cs:=zQJ (fd:=fD) (rd:=rC) (wd:=S) (by rw[<-a9];rfl) x5 b6 X m;have hH:∃H3:Heap,X.new m (.row [fD,rC,S])=H3/\H3.at' n=some (.row [fD,rA,wd])/\H3.at' m=some (.row [fD,rC,S]):=⟨_,rfl,by rw[zi ow];exact bs,z8 _ _ _⟩;obtain⟨H3,a5,r0,r1⟩:=hH;rw[a5]at cs;clear u C b5 hA er a5 bs ch
 repeat' first|simp only[go_sem, *]|apply bc<;>intro t|(refine zE.mono (heq _) ?_;rintro r h ⟨v,rfl⟩)
end Go.V
