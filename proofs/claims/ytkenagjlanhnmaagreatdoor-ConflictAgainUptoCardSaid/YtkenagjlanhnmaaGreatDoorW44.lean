/- Contracts of functions that the law reaches, part 3. No condition. -/
import Derived.Test.YtkenagjlanhnmaaGreatDoorW43
set_option linter.all false
set_option maxHeartbeats 8000000
namespace Go.V
open Go.Proofs.Tryz
open Go.Proofs
variable{k:Nat}
def Ih{c:List D}(h:Shp prog k 29 c):∃d fs,c= [d]/\yi 12 (mV fs) d/\fs.length<=1048576/\(∀f∈fs,f.Ok0)/\ShF fs:=by
 obtain⟨b,o,m,rfl,_,j,_,a,h1⟩:=dc underlying29 Zv h;have e:=h1;obtain⟨l,rfl,n⟩:=jd (f:=Fac.cells) λy i=>zAj (h1 y i);rw[zG]at a;exact⟨b,l,rfl,j,a,n,⟨λc g=>⟨m,e c g⟩⟩⟩
set_option maxRecDepth 100000
theorem zAL:Qg prog D5 f48=true:=kr
theorem muI(t:Tmp):D5.mu t=List.contains (α:=Nat) [] t:=(rfl)
theorem Lq(i:Nat):wY (nI (List.range (i+1)))=wY (nI (List.range i))++ [[.int .i64 (i:Int)]]:=by
 rw[mf];simp[wY]
theorem zCI{fs:List Fac}{x:D}(m:yi 12 (mV fs) x)(A:fs.length<=1048576)(g:Heap):zE prog 48 [x] g λr h'=>h'=g/\Fin 1 (wY (nI (List.range fs.length))) r:=by
 refine xU kr λo=>xS ?_;refine xP λR j=> ?_;have u:=pi m;refine xO mix func48 zAL rfl rfl ?_;simp only[f48,zA]
 repeat' first|simp only[go_sem,muI, *]|apply bc<;>intro l
 refine zd (λi fr h=>fr 6=.int .i64 (fs.length:Int)/\fr 7=.int .i64 (i:Int)/\Own g h 1 (wY (nI (List.range i))) (fr 3)) fs.length ow ?_ ?_ ?_
 ·simp only[go_sem,zT,zV,zI];exact Own.start (Ext.refl g) 1
 ·rintro i fr h t p z ⟨q,s,b⟩;obtain⟨e,f⟩:∃d,fr 3=d:=⟨_,rfl⟩;rw[f]at b;have k:∀nid H,yB prog false nid 30 1 [(0,.int .i64 (i:Int))] H=some (.sl 1 [[.int .i64 (i:Int)]] .full,H):=λnid H=>qW (x:=.int .i64 (i:Int)) qv rv sI rfl rfl ow ow rfl rfl;have a:(wY (nI (List.range i))).length=i:=by simp[wY]
  clear j m
  repeat' first|simp only[go_sem,muI, *]|apply bc<;>intro l
  refine b.appH (ys:=[_]) qv Z3 sI ow (λy v=>by rw[ze.1 v];rfl) (by simp) (by rw[a,lq];unfold lim;simp;omega) (by rw[a];unfold lim;simp;omega) λw h' c=> ?_;rw[<-Lq]at c;clear b k a
  repeat' first|simp only[go_sem,muI, *]|apply bc<;>intro l
  rw[mf]at c;exact c
 ·rintro fr h p ⟨q,s,b⟩;obtain⟨e,f⟩:∃d,fr 3=d:=⟨_,rfl⟩;rw[f]at b;have n:=j e h (b.fin rH);clear b j m
  repeat' first|simp only[go_sem,muI, *]|apply bc<;>intro l
abbrev tc(I:List Nat):D:=.sl 1 (wY (nI I)) .no
theorem W0{I:List Nat}{i:Nat}(a:i<I.length)(b:I.length<=1048576)(g:Heap):zE prog 35 [tc I,.int .i64 (i:Int)] g λr h'=>h'=g/\r=tc (I.eraseIdx i):=by
 refine(Y3 (ks:=nI I) (d:=tc I) (i:=i) (by rw[zG];exact a) (by rw[zG];exact b) (by simp only[QU,qS];rw[show wY (nI I)=(nI I).map λn=>[D.int .i64 n]from rfl,XG]) (λc=>by rw[tI (yi.mk .no) underlying30];rfl)).mono λr h' q=>⟨q.1,?_⟩
 rw[q.2];exact congrArg (D.sl 1 · .no) (by rw[gZ];first|rfl|exact congrArg _ (Ja _ _ _))
theorem Li:Qg prog D5 f79=true:=kr
theorem Gu{l:List Int} :∀x∈wY l,x.length=1:=λx a=>by
 obtain⟨n,_,rfl⟩:=zM.1 a;rfl
theorem Ko{I:List Nat}(h0:I≠[])(m:I.length<=1048576){d:D}(k:yi 1 (wY (nI I)) d)(h:Heap):zE prog 79 [d] h λr h'=>h'=h/\r=tc I:=by
 refine xU kr λ_=>xS ?_;have f:wY (nI I)≠[]:=λe=>h0 (by simpa [wY]using e);have a:(wY (nI I)).length=I.length:=by simp[wY]
 obtain⟨tk,rfl⟩:∃tk,d=.sl 1 (wY (nI I)) tk:=by
  rcases k with⟨_,e⟩ |h
  ·exact absurd e f
  ·exact h
 have l:∀c,jI prog .eql 30 c (.sl 1 (wY (nI I)) tk) .nilsl=some (.bool false):=λc=>by rw[tI (yi.mk tk) underlying30];rfl
 have j:(wY (nI I)).length*8<=lim:=by rw[a];unfold lim;omega
 have i:(wY (nI I)).length<=lim:=by rw[a];unfold lim;omega
 refine xO mix func79 Li rfl rfl ?_;simp only[f79,zA];simp only[go_sem,Nat.reduceEqDiff,↓reduceIte,l,muI,u9,Nat.reduceBEq,wc qv rv sI rfl rfl (by omega:0<1)];rw[l8 qv Z3 sI ow Gu (by rw[lq];exact j) i];rw[iq (λe=>f (yM.1 e))];simp only[go_sem,(yj (sz:=1) rH _).1];have b:below h.next (.sl 1 (wY (nI I)) .no):=qF (yC _) _ (yj rH .no).2;refine⟨(Ext.refl h).new (zD _) _,?_,?_⟩
 ·first|exact b|simpa [below]using b
 ·first|trivial|rfl
def AH(c:Cat)(fs:List Fac):List D:=if ql c fs=0 then(match(rU c fs).head? with
 |some q=>[tsF q,owF q]
 |none=>[.nilsl,.nilsl])else [.nilsl,.nilsl]
def Te(c:Cat)(fs:List Fac):D:=if ql c fs=0 then(match(rU c fs).head? with
 |some q=>.nilsl
 |none=>zAZ (p9 c fs))else .nilsl
theorem dD(c:Cat)(fs:List Fac):∃b d a,KR c fs=.tuple [.agg [.bool b,d,a,Te c fs],.int .i64 (ql c fs)]/\AH c fs= [d,a]/\d.flat=true/\a.flat=true/\(Te c fs).flat=true:=by
 obtain⟨b,d,a,rd,e,_,⟨h1,g,h3⟩,_⟩:=Mb (c:=c) (gs:=fs)
 have:rd=Te c fs/\AH c fs= [d,a]:=by
  unfold KR at e;unfold Te AH;split at e
  ·rename_i f;rw[ip f,ip f];split at e
   ·rename_i q eq;rw[eq];have e1:=D.agg.inj (cq (D.tuple.inj e)).1;cases e1;exact⟨rfl,rfl⟩
   ·rename_i eq;rw[eq];have e1:=D.agg.inj (cq (D.tuple.inj e)).1;cases e1;exact⟨rfl,rfl⟩
  ·rename_i f;rw[iq f,iq f];have e1:=D.agg.inj (cq (D.tuple.inj e)).1;cases e1;exact⟨rfl,rfl⟩
 obtain⟨rfl,e2⟩:=this;exact⟨b,d,a,e,e2,h1,g,h3⟩
theorem J7(nd:Nd):wr (ndF nd):=by
 obtain⟨v,ks,o⟩:=nd;have b:(Hi ks).flat=true/\below 0 (Hi ks)/\qD (Hi ks)=Hi ks:=by
  unfold Hi;split
  ·exact⟨rfl,trivial,rfl⟩
  ·have a:=yj (sz:=1) (xs:=wY ks) rH .no;exact⟨rfl,a.2,a.1⟩
 obtain⟨k1,k2,k3⟩:=b;cases o with
 |none=>exact⟨by simp[ndF,Mn,k1];exact⟨rfl,rfl,rfl⟩,⟨trivial,k2,trivial,trivial,trivial⟩,by simp[ndF,Mn,qY,qD,k3]⟩
 |some w=>
  have a:=yj (sz:=1) (xs:=wY w.facts) rH .no;exact⟨by simp[ndF,Mn,Vio.cells,k1];exact⟨rfl,rfl,rfl⟩,⟨trivial,k2,trivial,a.2,trivial⟩,by show [qD _,qD _,qD _,qD _]=_;rw[k3,a.1];rfl⟩
theorem VU(c:Cat)(fs:List Fac):qD (Te c fs)=Te c fs/\below 0 (Te c fs):=by
 unfold Te;split
 ·split
  ·exact⟨rfl,trivial⟩
  ·unfold zAZ;split
   ·exact⟨rfl,trivial⟩
   ·exact yj (sz:=4) (xs:=(p9 c fs).map ndF) (λx a=>by
     obtain⟨nd,_,rfl⟩:=zM.1 a;exact J7 nd) .no
 ·exact⟨rfl,trivial⟩
theorem W2(c:Cat)(fs:List Fac):wr (AH c fs):=by
 have e:wr [.nilsl,.nilsl]:=⟨rfl,⟨trivial,trivial,trivial⟩,rfl⟩;unfold AH;split
 ·split
  ·rename_i q _;have d:(tsF q).flat=true/\qD (tsF q)=tsF q/\below 0 (tsF q):=by
    unfold tsF;split
    ·exact⟨rfl,rfl,trivial⟩
    ·exact⟨rfl,yj (sz:=1) (xs:=qe (q.ts.map nu)) (λx g=>by
      obtain⟨a,f,rfl⟩:=zM.1 g;obtain⟨t,_,rfl⟩:=zM.1 f;exact fW t) .no⟩
   have b:(owF q).flat=true/\qD (owF q)=owF q/\below 0 (owF q):=by
    unfold owF;split
    ·exact⟨rfl,rfl,trivial⟩
    ·exact⟨rfl,yj (sz:=1) (xs:=wn q.own) uo .no⟩
   exact⟨by simp[d.1,b.1],⟨d.2.2,b.2.2,trivial⟩,by show [qD _,qD _]=_;rw[d.2.1,b.2.1]⟩
  ·exact e
 ·exact e
def Wm(c:Cat)(fs:List Fac)(F:List Nat)(i:Nat):List (List D):=(List.range i).map λj=>AH c (yG fs (F.eraseIdx j))
theorem KK(c:Cat)(fs:List Fac)(F:List Nat)(i:Nat):Wm c fs F (i+1)=Wm c fs F i++ [AH c (yG fs (F.eraseIdx i))]:=by
 unfold Wm;rw[mf];simp
section
variable{c:Cat}{fs:List Fac}{ca cb ce cp x:D}
theorem GZ(K:KIn c fs ca cb ce cp x){I:List Nat}(H:InI fs I)(h0:I≠[]){f:D}(hf:yi 1 (wY (nI I)) f)(g:Heap):zE prog 49 [.agg [ca,cb,ce,cp],x,f] g λr h'=>h'=g/\∃wd,r=.agg [tc (FN c fs I),Te c (yG fs (FN c fs I)),wd]/\Fin 2 (Wm c fs (FN c fs I) (FN c fs I).length) wd:=by
 have hl:I.length<=24:=by
  have h1:=H.sub.length_le;rw[uj H.lt]at h1;have:=K.h16;omega
 refine xU kr λb8=>xS ?_;refine xP λR X=> ?_;have cf:∀h,HLe Heap.emp h:=λh i ob e=>by cases e
 have z:=Ko h0 ow hf;obtain⟨n,hn⟩:∃n,g.next=n:=⟨_,rfl⟩;obtain⟨G,hG,a0,g1,hE⟩:∃G:Heap,g.new n (.row [.nilsl,.nilsl,.nilsl])=G/\G.next=n+1/\G.at' n=some (.row [.nilsl,.nilsl,.nilsl])/\Ext g G:=⟨_,rfl,by rw[<-hn];exact za _ _,z8 _ _ _,by rw[<-hn];exact(Ext.refl g).new (zD _) _⟩;have cc:∀(J:List Nat) h,mC prog 30 (tc J) h=some (.int .i64 (J.length:Int)):=λJ h=>by
  have:=nQ (l:=nI J) (d:=tc J) (yi.mk .no) h
  rwa [zG]at this
 have cl:IntKind.i64.wrap ((I.length:Int)-1)=(I.length:Int)-1:=qU ow ow;refine zu zMx ?_;simp only[f49,zA]
 repeat' first|simp only[go_sem, *]|apply bc<;>intro w|(refine zE.mono (z _) ?_;rintro r h ⟨N,rfl⟩)
 subst N
 rename Heap=>G
 refine zd (λi fr h=>fr 1=x/\fr 3=.iptr [ca,cb,ce,cp] 0/\fr 6=.ptr n 0/\fr 8=.int .i64 ((I.length:Int)-1- (i:Int))/\h=G/\∃J,fr 7=tc J/\J.Sublist I/\I.length-i<=J.length/\Ma c fs (I.length-i) J=FN c fs I) I.length ow ?_ ?_ ?_
 ·clear X z;simp only[go_sem,zT,zV,zI];exact⟨by rw[Int.sub_zero],I,rfl,List.Sublist.refl _,zD _,rfl⟩
 ·clear X z;rintro i fr h b3 ec ew ⟨f1,f3,f6,f8,N,J,f7,U,jl,t⟩;subst N;obtain⟨k,hk⟩:∃k,I.length-i=k+1:=⟨I.length-i-1,by omega⟩;have ad:(I.length:Int)-1- (i:Int)=(k:Int):=ow;rw[ad]at f8;have b9:decide ((k:Int)>=0)=true:=zS ow;have hw:IntKind.i64.wrap ((k:Int)-1)=(I.length:Int)-1- ((i+1:Nat):Int):=by rw[qU ow ow];omega
  rw[hk]at t jl;have M:I.length- (i+1)=k:=ow;have Y:=U.length_le;have C:=W0 (I:=J) (i:=k) ow ow;have o:(J.eraseIdx k).Sublist I:=(wx _ _).trans U;have O:=Wy K (H.mono o) (f:=tc (J.eraseIdx k)) (yi.mk .no) (by have:=o.length_le;omega);have S:k<=(J.eraseIdx k).length:=by rw[pP];split<;>omega
  have hs:Ma c fs (k+1) J=Ma c fs k (if ZF c (yG fs (J.eraseIdx k))=true then J.eraseIdx k else J):=rfl
  rw[hs]at t;cases hb:ZF c (yG fs (J.eraseIdx k))with
  |true=>
   rw[hb,ip rfl]at t;rw[hb]at O;have Q:∃L,tc (J.eraseIdx k)=tc L/\L.Sublist I/\I.length- (i+1)<=L.length/\Ma c fs (I.length- (i+1)) L=FN c fs I:=⟨_,rfl,o,by omega,by rw[M];exact t⟩;clear t hs hk ad U jl o S hb Y M
   repeat' first|simp only[go_sem, *]|apply bc<;>intro w|(refine zE.mono (C _) ?_;rintro r h ⟨N,rfl⟩)|(refine zE.mono (O _) ?_;rintro r h ⟨N,rfl⟩)
  |false=>
   rw[hb,iq zZ]at t;rw[hb]at O;have Q:∃L,tc J=tc L/\L.Sublist I/\I.length- (i+1)<=L.length/\Ma c fs (I.length- (i+1)) L=FN c fs I:=⟨_,rfl,U,by omega,by rw[M];exact t⟩;clear t hs hk ad U jl o S hb Y M
   repeat' first|simp only[go_sem, *]|apply bc<;>intro w|(refine zE.mono (C _) ?_;rintro r h ⟨N,rfl⟩)|(refine zE.mono (O _) ?_;rintro r h ⟨N,rfl⟩)
 ·rintro fr h ec ⟨f1,f3,f6,f8,N,J,f7,U,jl,t⟩;subst N;have b3:decide ((I.length:Int)-1- (I.length:Int)>=0)=false:=zP ow;rw[ln]at t;have t:J=FN c fs I:=t;rw[<-t]at X;have HF:InI fs J:=H.mono U;have Y:=U.length_le;have ck:qd prog 35 [(0,tc J)]=some (.agg [tc J,.nilsl,.nilsl]):=by simp[qd,ZA,Ta,ur,wo,D.cells,D.notTuple]
  obtain⟨E,a3,a1,a2,aE,aN⟩:∃E,h.new (n+1) (.row [tc J,.nilsl,.nilsl])=E/\E.at' (n+1)=some (.row [tc J,.nilsl,.nilsl])/\E.at' n=some (.row [.nilsl,.nilsl,.nilsl])/\Ext g E/\E.next=n+2:=⟨_,rfl,z8 _ _ _,by rw[zi ow];exact g1,hE.new ow _,by rw[<-a0,za,a0]⟩;have s1:yX prog 35 (.ptr (n+1) 0) (.agg [tc J,.nilsl,.nilsl]) (h.new (n+1) (.row [.nilsl,.nilsl,.nilsl]))=some E:=by
   rw[<-a3];exact qK Vn ow rfl rfl rfl
  have A:=Q1 K.x K.sh (I:=J) (f:=tc J) (yi.mk .no) HF.lt ow;have s:=K.solve HF;obtain⟨b,v,u,es,ai,x1,x2,x3⟩:=dD c (yG fs J);obtain⟨p1,p2⟩:=VU c (yG fs J);rw[es]at s;generalize Te c (yG fs J)=p at *
  obtain⟨F,a4,b0,b1,b2,bE,bN⟩:∃F,E.new (n+2) (.row [.bool b,v,u,p])=F/\F.at' (n+2)=some (.row [.bool b,v,u,p])/\F.at' (n+1)=some (.row [tc J,.nilsl,.nilsl])/\F.at' n=some (.row [.nilsl,.nilsl,.nilsl])/\Ext g F/\F.next=n+3:=⟨_,rfl,z8 _ _ _,by rw[zi ow];exact a1,by rw[zi ow];exact a2,aE.new ow _,by rw[<-aN,za,aN]⟩;have s2:yX prog 49 (.ptr (n+2) 0) (.agg [.bool b,v,u,p]) (E.new (n+2) (.row [.bool false,.nilsl,.nilsl,.nilsl]))=some F:=by
   rw[<-a4];exact Ix E x1 x2 x3
  obtain⟨V,a5,d1,d2,dE,dN⟩:∃V,F.set (n+1) (.row [tc J,p,.nilsl])=V/\V.at' (n+1)=some (.row [tc J,p,.nilsl])/\V.at' n=some (.row [.nilsl,.nilsl,.nilsl])/\Ext g V/\V.next=n+3:=⟨_,rfl,zW _ _ _,by rw[zY ow];exact b2,bE.set ow _,by rw[ym];exact bN⟩;have s3:yX prog 32 (.ptr (n+1) 1) p F=some V:=by
   rw[yU b1 BC (by simp) (by
    cases p<;>first|rfl|cases x3) x3,<-a5];rfl
  clear t hG g1 a3 a4 a5 bE aE hE es
  repeat' first|simp only[go_sem, *]|apply bc<;>intro w
  refine qH Heap.emp [(0,.st,true),(1,.no,true),(2,.no,true),(3,.st,true),(4,.st,true),(5,.no,true),(6,.no,true),(7,.no,true),(8,.no,true),(9,.no,true),(10,.no,true)] kr kr (λi ob e=>by cases e) ?_
  repeat' first|simp only[go_sem, *]|apply bc<;>intro w
  refine kK _ (λH=>A H) ?_
  repeat' first|simp only[go_sem, *]|apply bc<;>intro w
  refine kK _ (λH=>s H) ?_
  repeat' first|simp only[go_sem, *]|apply bc<;>intro w
  clear A s s1 s2 s3 a1 a2 b0 b1 b2;refine zd (λj fr h'=>fr 1=x/\fr 3=.iptr [ca,cb,ce,cp] 0/\fr 6=.ptr n 0/\fr 7=tc J/\fr 10=.ptr (n+1) 0/\fr 47=.int .i64 (J.length:Int)/\fr 48=.int .i64 (j:Int)/\n+1<h'.next/\h'.at' n=some (.row [.nilsl,.nilsl,.nilsl])/\∃e,h'.at' (n+1)=some (.row [tc J,p,e])/\Own g h' 2 (Wm c fs J j) e) J.length ow ?_ ?_ ?_
  ·clear X;simp only[go_sem,zT,zV,zI];exact⟨f1,f3,f6,f7,by omega,d2,.nilsl,d1,Own.start dE 2⟩
  ·clear X z f1 f3 f6 f7 f8 d1 d2 dE dN;rintro j fr h' a8 ai ew ⟨f1,f3,f6,f7,bb,bk,bo,b5,a1,e,a2,ho⟩;have C:=W0 (I:=J) (i:=j) a8 ow;have o:(J.eraseIdx j).Sublist J:=wx _ _;have cg:=o.length_le;have A:=Q1 K.x K.sh (I:=J.eraseIdx j) (f:=tc (J.eraseIdx j)) (yi.mk .no) (HF.mono o).lt ow;have s:=K.solve (HF.mono o);obtain⟨b,v,u,es,ak,x1,x2,x3⟩:=dD c (yG fs (J.eraseIdx j));rw[es]at s;have B:=KK c fs J j;rw[ak]at B;have ba:(Wm c fs J j).length=j:=by simp[Wm]
   generalize Te c (yG fs (J.eraseIdx j))=rB at *
   obtain⟨m,hm⟩:∃m,h'.next=m:=⟨_,rfl⟩;obtain⟨P,a6,b0,b1,b2,bN,a9⟩:∃P,h'.new m (.row [.bool b,v,u,rB])=P/\P.at' m=some (.row [.bool b,v,u,rB])/\P.at' (n+1)=some (.row [tc J,p,e])/\P.at' n=some (.row [.nilsl,.nilsl,.nilsl])/\P.next=m+1/\Own g P 2 (Wm c fs J j) e:=⟨_,rfl,z8 _ _ _,by rw[zi ow];exact a2,by rw[zi ow];exact a1,by rw[<-hm,za],ho.ext (by rw[<-hm];exact(Ext.refl h').new (zD _) _)⟩;have s4:yX prog 49 (.ptr m 0) (.agg [.bool b,v,u,rB]) (h'.new m (.row [.bool false,.nilsl,.nilsl,.nilsl]))=some P:=by
    rw[<-a6];exact Ix h' x1 x2 x3
   have bs:∀nid H,yB prog false nid 33 1 [(0,.agg [v,u])] H=some (.sl 2 [[v,u]] .full,H):=λnid H=>qW (x:=.agg [v,u]) Nm Mu QN rfl rfl ow ow rfl rfl;have b6:yW true 2 [.bool b,v,u,rB] 1=some (.agg [v,u]):=rfl;clear a6 ho es ak o
   repeat' first|simp only[go_sem, *]|apply bc<;>intro w
   refine qH Heap.emp [(0,.st,true),(1,.no,true),(2,.no,true),(3,.no,true),(4,.st,true),(5,.st,true),(6,.st,true),(7,.no,true),(8,.no,true),(9,.no,true),(10,.no,true),(11,.no,true),(12,.no,true)] kr kr (λi ob e=>by cases e) ?_
   repeat' first|simp only[go_sem, *]|apply bc<;>intro w
   refine kK _ (λH=>C H) ?_
   repeat' first|simp only[go_sem, *]|apply bc<;>intro w
   refine kK _ (λH=>A H) ?_
   repeat' first|simp only[go_sem, *]|apply bc<;>intro w
   refine kK _ (λH=>s H) ?_
   repeat' first|simp only[go_sem, *]|apply bc<;>intro w
   rw[<-bN];refine a9.appK (ys:=[[v,u]]) Nm zA9 QN ow (by simp) (by simp) (by rw[ba,Kh];unfold lim;simp;omega) (by rw[ba];unfold lim;simp;omega) λe' h5 ag b4 Z=> ?_;have c1:h5.at' (n+1)=some (.row [tc J,p,e]):=by rw[Z _ ow (by rw[b1];intro q;cases q)];exact b1
   have c2:h5.at' n=some (.row [.nilsl,.nilsl,.nilsl]):=by rw[Z _ ow (by rw[b2];intro q;cases q)];exact b2
   obtain⟨y1,y2,y3⟩:=ag.flat;have s5:yX prog 33 (.ptr (n+1) 2) e' h5=some (h5.set (n+1) (.row [tc J,p,e'])):=by
    rw[yU c1 zGq (by simp) y2 y1];rfl
   have Q:n+1<h5.next:=ow;have bx:(h5.set (n+1) (.row [tc J,p,e'])).at' n=some (.row [.nilsl,.nilsl,.nilsl]):=by rw[zY ow];exact c2
   have T:=ag.setK ow c1 (by intro q;cases q) (.row [tc J,p,e']);clear C A s a9 ag Z b4 b0 b1 b2 c1 c2 bs b6 s4 B
   repeat' first|simp only[go_sem, *]|apply bc<;>intro w
   first|exact⟨e',rfl,T⟩ |exact⟨bx,e',rfl,T⟩
  ·clear z f1 f3 f6 f7 f8 d1 d2 dE dN;rintro fr h' ai ⟨f1,f3,f6,f7,bb,bk,bo,b5,a1,e,a2,ho⟩;obtain⟨q1,q2,q3⟩:=ho.fin λy hy=>by
    obtain⟨i,_,rfl⟩:=zM.1 hy;exact W2 _ _
   obtain⟨y1,y2,y3⟩:=ho.flat;obtain⟨W,a7,c1,c2,cE⟩:∃W,h'.set n (.row [tc J,p,e])=W/\W.at' n=some (.row [tc J,p,e])/\W.at' (n+1)=some (.row [tc J,p,e])/\Ext g W:=⟨_,rfl,zW _ _ _,by rw[zY ow];exact a2,q1.set ow _⟩;have ch:∀a b c:D,yW true 3 [a,b,c] 0=some (.agg [a,b,c]):=λa b c=>zJ rfl ow;have s6:yX prog 35 (.ptr n 0) (.agg [tc J,p,e]) h'=some W:=by
    rw[<-a7];exact qp a1 (by rw[Vn];rfl) rfl (by simp) (by simp[x3,y1];rfl)
   have hp:=yj (sz:=1) (xs:=wY (nI J)) rH .no;have b7:R (.agg [tc J,p,e]) W:=X _ _ ⟨cE,⟨qF (yC _) _ (by rw[hp.1];exact hp.2),by rw[p1];exact qF (yC _) _ p2,q2,trivial⟩,qD e,by simp only[qD,qY,p1];rw[show D.sl 1 (p5 (wY (nI J))) Tk.no=tc J from hp.1],q3⟩
   clear X a7 cE q1 q2 q3 ho hp p1 p2;exact au
end
theorem W5(fs:List Fac):yG fs (List.range fs.length)=fs:=by
 apply sT;intro j;rw[kg (λi a=>qT.1 a)];by_cases h:j<fs.length
 ·rw[me h];rfl
 ·rw[t4 (by simp;omega),t4 ow];rfl
theorem NL(fs:List Fac):InI fs (List.range fs.length):=⟨λi a=>qT.1 a,List.pairwise_lt_range⟩
abbrev fg(c:Cat)(fs:List Fac):List Nat:=FN c fs (List.range fs.length)
def zIL(c:Cat)(fs:List Fac)(r:D):Prop:=
 (ql c fs≠0/\r=.tuple [.agg [.nilsl,.nilsl,.nilsl],.int .i64 (ql c fs)])\/
 (ql c fs=0/\ZF c fs=false/\r=.tuple [.agg [.nilsl,.nilsl,.nilsl],.int .i64 14])\/
 (ZF c fs=true/\∃wd,r=.tuple [.agg [tc (fg c fs),Te c (yG fs (fg c fs)),wd],.int .i64 0]/\Fin 2 (Wm c fs (fg c fs) (fg c fs).length) wd)
section
variable{c:Cat}{fs:List Fac}{ca cb ce cp x:D}
theorem zCG(K:KIn c fs ca cb ce cp x)(g:Heap):zE prog 18 [.agg [ca,cb,ce,cp],x] g λr h'=>h'=g/\zIL c fs r:=by
 have hl:=K.h16;refine xU kr λV=>xS ?_;refine xP λR u=> ?_;have ad:∀a b c:D,yW true 3 [a,b,c] 0=some (.agg [a,b,c]):=λa b c=>zJ rfl ow;have Z:∀h,HLe Heap.emp h:=λh i P e=>by cases e
 have k:=Qz K.cat K.sm K.x ow K.ok;unfold XA at k;obtain⟨n,U⟩:∃n,g.next=n:=⟨_,rfl⟩;obtain⟨G,hG,Y,J,o⟩:∃G:Heap,g.new n (.row [.nilsl,.nilsl,.nilsl])=G/\G.next=n+1/\G.at' n=some (.row [.nilsl,.nilsl,.nilsl])/\Ext g G:=⟨_,rfl,by rw[<-U];exact za _ _,z8 _ _ _,by rw[<-U];exact(Ext.refl g).new (zD _) _⟩;have ag:qd prog 35 []=some (.agg [.nilsl,.nilsl,.nilsl]):=by simp[qd,ZA,Ta,ur,D.cells,D.notTuple]
 have s0:yX prog 35 (.ptr n 0) (.agg [.nilsl,.nilsl,.nilsl]) G=some G:=by
  rw[qp J (by rw[Vn];rfl) rfl (by simp) rfl,sR J]
 have E:∀e:Int,below g.next (qD (.tuple [.agg [.nilsl,.nilsl,.nilsl],.int .i64 e])):=λe=>⟨⟨trivial,trivial,trivial,trivial⟩,trivial,trivial⟩;cases F:(ql c fs==0)with
 |false=>
  have B:ql c fs≠0:=by simpa using F
  have q:R (.tuple [.agg [.nilsl,.nilsl,.nilsl],.int .i64 (ql c fs)]) G:=u _ _ ⟨o,E _,.inl ⟨B,rfl⟩⟩;rw[iq (by rw[F];exact zZ)]at k;clear u o E B;refine zu zFO ?_;simp only[f18,zA]
  repeat' first|simp only[go_sem, *]|apply bc<;>intro p|(refine zE.mono (k _) ?_;rintro r h ⟨j,rfl⟩)
 |true=>
  have h0:ql c fs=0:=eq_of_beq F;rw[ip F]at k;have l:=zCI K.x ow;have d:=λ(f:D) (hf:yi 1 (wY (nI (List.range fs.length))) f) g=>Wy K (NL fs) hf (by rw[pD];omega) g;rw[W5]at d;cases t:ZF c fs with
  |false=>
   have q:R (.tuple [.agg [.nilsl,.nilsl,.nilsl],.int .i64 14]) G:=u _ _ ⟨o,E _,.inr (.inl ⟨h0,t,rfl⟩)⟩;rw[t]at d;clear u o E h0 t;refine zu zFO ?_;simp only[f18,zA]
   repeat' first|simp only[go_sem, *]|apply bc<;>intro p|(refine zE.mono (k _) ?_;rintro r h ⟨j,rfl⟩)
   subst j
   rename Heap=>G
   refine qH Heap.emp [(0,.st,true),(1,.no,true),(2,.no,true),(3,.no,true),(4,.no,true),(5,.no,true)] kr kr (λi P e=>by cases e) ?_
   repeat' first|simp only[go_sem, *]|apply bc<;>intro p
   refine(l _).mono ?_;rintro r h ⟨j,hf⟩;subst j;have d:=d r hf.isSl;clear l hf
   repeat' first|simp only[go_sem, *]|apply bc<;>intro p|(refine zE.mono (d _) ?_;rintro r h ⟨j,rfl⟩)
  |true=>
   have z:List.range fs.length≠[]:=λe=>by
    obtain⟨s,N⟩:=Uk t;unfold wC at N
    have:fs= []:=by
     have:=congrArg List.length e;rw[pD]at this;exact yM.1 this
    rw[this]at N;cases N
   have m:=λ(f:D) (hf:yi 1 (wY (nI (List.range fs.length))) f) g=>GZ K (NL fs) z hf g;obtain⟨W,X⟩:=VU c (yG fs (fg c fs));obtain⟨_,_,_,_,_,_,_,x3⟩:=dD c (yG fs (fg c fs));have M:=yj (sz:=1) (xs:=wY (nI (fg c fs))) rH .no;have A:∀wd h,Ext g h->Fin 2 (Wm c fs (fg c fs) (fg c fs).length) wd->R (.tuple [.agg [tc (fg c fs),Te c (yG fs (fg c fs)),wd],.int .i64 0]) h:=λwd h o v=>by
    have C:qD wd=wd/\below 0 wd:=by
     rcases v with⟨rfl,_⟩ |rfl
     ·exact⟨rfl,trivial⟩
     ·exact yj (sz:=2) (λy hy=>by
       obtain⟨i,_,rfl⟩:=zM.1 hy;exact W2 _ _) .no
    have S:qD (.tuple [.agg [tc (fg c fs),Te c (yG fs (fg c fs)),wd],.int .i64 0])=.tuple [.agg [tc (fg c fs),Te c (yG fs (fg c fs)),wd],.int .i64 0]:=by
     simp only[qD,qY,W,C.1];rw[show D.sl 1 (p5 (wY (nI (fg c fs)))) Tk.no=tc (fg c fs)from M.1]
    refine u _ _ ⟨o,?_,?_⟩
    ·rw[S];exact⟨⟨qF (yC _) _ M.2,qF (yC _) _ X,qF (yC _) _ C.2,trivial⟩,trivial,trivial⟩
    ·rw[S];exact .inr (.inr ⟨t,wd,rfl,v⟩)
   rw[t]at d;generalize Te c (yG fs (fg c fs))=Q at *
   have L:(tc (fg c fs)).flat=true:=rfl;generalize tc (fg c fs)=I at *
   clear u E h0 t W X M z;refine zu zFO ?_;simp only[f18,zA]
   repeat' first|simp only[go_sem, *]|apply bc<;>intro p|(refine zE.mono (k _) ?_;rintro r h ⟨j,rfl⟩)
   subst j
   rename Heap=>G
   refine qH Heap.emp [(0,.st,true),(1,.no,true),(2,.no,true),(3,.no,true),(4,.no,true),(5,.no,true)] kr kr (λi P e=>by cases e) ?_
   repeat' first|simp only[go_sem, *]|apply bc<;>intro p
   refine(l _).mono ?_;rintro r h ⟨j,hf⟩;subst j;have d:=d r hf.isSl;clear hf
   rename Heap=>G
   repeat' first|simp only[go_sem, *]|apply bc<;>intro p|(refine zE.mono (d _) ?_;rintro r h ⟨j,rfl⟩)
   subst j
   rename Heap=>G
   refine qH Heap.emp [(0,.st,true),(1,.no,true),(2,.no,true),(3,.no,true),(4,.no,true),(5,.no,true),(6,.no,true)] kr kr (λi P e=>by cases e) ?_
   repeat' first|simp only[go_sem, *]|apply bc<;>intro p
   refine(l _).mono ?_;rintro r h ⟨j,hf⟩;subst j
   rename Heap=>G
   have m:=m r hf.isSl;clear hf d l
   repeat' first|simp only[go_sem, *]|apply bc<;>intro p
   refine(m _).mono ?_;rintro r h ⟨j,wd,rfl,v⟩;subst j;have O:wd.flat=true:=by
    rcases v with⟨rfl,_⟩ |rfl<;>rfl
   obtain⟨H,T,h1,w⟩:∃H,h.set n (.row [I,Q,wd])=H/\H.at' n=some (.row [I,Q,wd])/\Ext g H:=⟨_,rfl,zW _ _ _,o.set ow _⟩;have s1:yX prog 35 (.ptr n 0) (.agg [I,Q,wd]) h=some H:=by
    rw[<-T];exact qp J (by rw[Vn];rfl) rfl (by simp) (by simp[L,x3,O])
   have q:=A wd H w v;clear A m o w T v;exact au
end
def zEh(kind:Int)(comp out:List UInt8)(f:Fac):Bool:=f.kind==kind&&(comp== []||f.comp==comp)&&(out== []||f.out==out)
theorem zCM(kind:Int)(a out:List UInt8)(f:Fac)(g:Heap):zE prog 25 [.agg f.cells,.iptr [.int .i64 kind] 0,.iptr [.str a] 0,.iptr [.str out] 0] g λr h'=>h'=g/\r=.bool (zEh kind a out f):=by
 have k0:f.cells[0]? =some (.int .i64 f.kind):=rfl;have k1:f.cells[1]? =some (.str f.comp):=rfl;have k2:f.cells[2]? =some (.str f.out):=rfl;unfold zEh;refine zu zOc ?_;simp only[f25,zA];exact au
theorem T0{l:List Fac}{d:D}(e:yi 12 (mV l) d)(z:l.length<=1073741824){f:FuncId}{cap:List D}{p:Fac->Bool}{g:Heap}(n:∀s∈l,zE prog f ([]++ [.agg s.cells]++cap) g λr h'=>h'=g/\r=.bool (p s)):
  zE prog 57 [d,.fn (.func f) [] cap] g λr h'=>h'=g/\r=.int .i64 (UO p l):=by
 have q:=pi e;have t:=jx;refine zu zOq ?_;simp only[f57,zA]
 repeat' first|simp only[go_sem, *]|apply bc<;>intro o
 refine zd (λi fr h=>fr 1=.fn (.func f) [] cap/\fr 0=d/\fr 6=d/\fr 7=.int .i64 (l.length:Int)/\fr 8=.int .i64 (i:Int)/\h=g/\∀j (a:j<l.length),j<i->p l[j]=false) l.length z ?_ ?_ ?_
 ·simp only[go_sem,zT,zV,zI];exact λj a h0=>by omega
 ·rintro i fr h b e1 F ⟨v,u,w,x,y,rfl,a⟩;have E:=tP e b;have m:=n _ (zH b);simp only[yc,yE]at m;have B:yW true 12 l[i].cells 0=some (.agg l[i].cells):=zJ rfl ow;cases c:p l[i]with
  |true=>
   have C:=jV b a c;rw[c]at m;clear a n e c;generalize l[i].cells=cs at *
   repeat' first|simp only[go_sem, *]|apply bc<;>intro o|refine zE.use m ?_
  |false=>
   have A:=tB (p:=p) b a c;rw[c]at m;clear a n e c;generalize l[i].cells=cs at *
   repeat' first|simp only[go_sem, *]|apply bc<;>intro o|refine zE.use m ?_
   exact A
 ·rintro fr h e1 ⟨v,u,w,x,y,rfl,a⟩;have C:=jW (p:=p) λj k=>a j k k;clear a n e;exact au
theorem Ys{l:List Fac}{d:D}(b:yi 12 (mV l) d)(e:l.length<=1073741824){f:FuncId}{cap:List D}{p:Fac->Bool}{g:Heap}(h:∀s∈l,zE prog f ([]++ [.agg s.cells]++cap) g λr h'=>h'=g/\r=.bool (p s)):
  zE prog 24 [d,.fn (.func f) [] cap] g λr h'=>h'=g/\r=.bool (l.any p):=by
 have a:=T0 b e h;have c:=gb (l:=l) (p:=p);refine zu zOb ?_;simp only[f24,zA]
 repeat' first|simp only[go_sem, *]|apply bc<;>intro i|refine zE.use a ?_
def Hh(gs:List Fac)(kind:Int)(comp out:List UInt8):Bool:=gs.any (zEh kind comp out)
theorem Fu{gs:List Fac}{c:D}(d:yi 12 (mV gs) c)(e:gs.length<=1048576)(kind:Int)(a out:List UInt8){n:Nat}{h:Heap}(i:h.at' n=some (.row [c])):zE prog 23 [.int .i64 kind,.str a,.str out,.ptr n 0] h λr h'=>h'=h/\r=.bool (Hh gs kind a out):=by
 have b:=Ys d ow (f:=25) (cap:=[.iptr [.int .i64 kind] 0,.iptr [.str a] 0,.iptr [.str out] 0]) (p:=zEh kind a out) (g:=h) λs _=>zCM kind a out s h;unfold Hh;refine zu zOa ?_;simp only[f23,zA]
 repeat' first|simp only[go_sem, *]|apply bc<;>intro b|refine zE.use b ?_
theorem Kk{c:Cat}{n x:D}(k:uc c n)(p:c.Sm){fs:List Fac}(s:yi 12 (mV fs) x)(t:fs.length<=1048576)(j:∀f∈fs,f.Ok0)(g:Heap):zE prog 9 [n,x] g λr h'=>h'=g/\∃b,r=.bool b/\(b=true->Fk fs/\c.ls.length<=40):=by
 refine xP λQ m=> ?_;have hf:Q (.bool false) g:=m _ _ ⟨rfl,_,rfl,λq=>by cases q⟩;have l:=Q5 k p s t j;have i:=λ(d:Fk fs/\c.ls.length<=40)=>GL k p d.2 s d.1.1.2 (λf h=>(j f h).ok (d.1.2 f h)) d.1.2;have e:Fk fs/\c.ls.length<=40->∀b,Q (.bool b) g:=λd b=>m _ _ ⟨rfl,b,rfl,λ_=>d⟩;obtain⟨ca,cb,ce,cp,rfl,u,_,_,_⟩:=k;clear m;refine zu ok9 ?_;simp only[f9,zA]
 repeat' first|simp only[go_sem, *]|apply bc<;>intro k
 refine(l _).mono ?_;rintro r h ⟨o,b,rfl,d⟩;subst o;clear l;cases b with
 |false=>
  clear e i j d
  repeat' first|simp only[go_sem, *]|apply bc<;>intro k
 |true=>
 have d:=d rfl;have i:=i d;have e:=e d;clear d j hf
 repeat' first|simp only[go_sem, *]|apply bc<;>intro k|(refine zE.mono (i _) ?_;rintro r h ⟨o,a,b,rfl⟩)
section
variable{c:Cat}{gs:List Fac}
theorem cI{kind:Int}{a out:List UInt8}{i:Nat}(b:wC gs i=kind)(h0:kind≠ -1)(h1:a= []\/uU gs i=a)(c:out= []\/uh gs i=out):Hh gs kind a out=true:=by
 unfold wC at b;unfold uU at h1;unfold uh at c;split at b
 ·rename_i f e;rw[e]at h1 c;refine yu.2 ⟨f,zg e,?_⟩;unfold zEh;rw[zF,zF,qN,qB,qB,qN,qN,qN,qN];exact⟨⟨b,h1⟩,c⟩
 ·exact absurd b.symm h0
structure Cnc(gs:List Fac)(f:Fac):Prop where
 u:(f.kind==0)=true->Hh gs 1 f.comp []=true/\Hh gs 2 [] f.out=true
 l:(f.kind==1)=true->Hh gs 0 f.comp []=true
 m:(f.kind==3)=true->Hh gs 2 [] f.out=true
 k:(f.kind==4)=true->Hh gs 0 f.comp []=true/\Hh gs 1 f.comp []=true
theorem A5(hr:ZF c gs=true)(l:∀j,j<gs.length->ZF c (gs.eraseIdx j)=false){j:Nat}(e:j<gs.length):Cnc gs gs[j]:=by
 obtain⟨p,v,m,n⟩:=A7 hr l e;obtain⟨f,g,i,k⟩:=P8 m n;have e1:wC gs j=gs[j].kind:=by simp[wC,e]
 have e2:uU gs j=gs[j].comp:=by simp[uU,e]
 have e3:uh gs j=gs[j].out:=by simp[uh,e]
 rw[e1,e2,e3]at f;rw[e1,e2]at g;rw[e1,e3]at i;rw[e1,e2]at k;refine⟨λh=> ?_,λh=> ?_,λh=> ?_,λh=> ?_⟩
 ·obtain⟨⟨a,b,d⟩,s,s1,s2⟩:=f (eq_of_beq h);exact⟨cI b (by decide) (.inr d) (.inl rfl),cI s1 (by decide) (.inl rfl) (.inr s2)⟩
 ·obtain⟨a,b,d⟩:=g (eq_of_beq h);exact cI b (by decide) (.inr d) (.inl rfl)
 ·obtain⟨s,s1,s2⟩:=i (eq_of_beq h);exact cI s1 (by decide) (.inl rfl) (.inr s2)
 ·obtain⟨⟨a,b,d⟩,s,s1,s2⟩:=k (eq_of_beq h);exact⟨cI b (by decide) (.inr d) (.inl rfl),cI s1 (by decide) (.inr s2) (.inl rfl)⟩
theorem A6(hr:ZF c gs=true):Hh gs 2 [] []=true:=by
 obtain⟨s,a⟩:=Uk hr;exact cI a (by decide) (.inl rfl) (.inl rfl)
end
section
variable{c:Cat}{fs:List Fac}
theorem AJ(h0:ql c fs=0)(hr:ZF c fs=true):ZF c (yG fs (fg c fs))=true/\InI fs (fg c fs)/\∀j,j<(yG fs (fg c fs)).length->ZF c ((yG fs (fg c fs)).eraseIdx j)=false:=by
 have H:InI fs (fg c fs):=(NL fs).mono (Pr _ _);refine⟨Pq _ _ (by rw[W5];exact hr),H,λj a=> ?_⟩;rw[RU H.lt];rw[uj H.lt]at a;exact Pp h0 _ _ (NL fs) (zD _) (λj h1 b=>by omega) j a
end
theorem BX{c:Cat}{ca cb ce cp x:D}(l:uc c (.agg [ca,cb,ce,cp]))(u:c.Sm){fs:List Fac}(y:yi 12 (mV fs) x)(t:fs.length<=65536)(e:∀f∈fs,f.Ok)(h0:ql c fs≠0)(g:Heap):zE prog 18 [.agg [ca,cb,ce,cp],x] g λr h'=>h'=g/\r=.tuple [.agg [.nilsl,.nilsl,.nilsl],.int .i64 (ql c fs)]:=by
 refine xU kr λp=>xS ?_;refine xP λR k=> ?_;have v:∀a b c:D,yW true 3 [a,b,c] 0=some (.agg [a,b,c]):=λa b c=>zJ rfl ow;have d:=Qz l u y t e;unfold XA at d;obtain⟨n,o⟩:∃n,g.next=n:=⟨_,rfl⟩;obtain⟨G,z,s,i,j⟩:∃G:Heap,g.new n (.row [.nilsl,.nilsl,.nilsl])=G/\G.next=n+1/\G.at' n=some (.row [.nilsl,.nilsl,.nilsl])/\Ext g G:=⟨_,rfl,by rw[<-o];exact za _ _,z8 _ _ _,by rw[<-o];exact(Ext.refl g).new (zD _) _⟩;have w:qd prog 35 []=some (.agg [.nilsl,.nilsl,.nilsl]):=by simp[qd,ZA,Ta,ur,D.cells,D.notTuple]
 have B:yX prog 35 (.ptr n 0) (.agg [.nilsl,.nilsl,.nilsl]) G=some G:=by
  rw[qp i (by rw[Vn];rfl) rfl (by simp) rfl,sR i]
 have q:(ql c fs==0)=false:=yr.2 h0;have m:R (.tuple [.agg [.nilsl,.nilsl,.nilsl],.int .i64 (ql c fs)]) G:=k _ _ ⟨j,⟨⟨trivial,trivial,trivial,trivial⟩,trivial,trivial⟩,rfl⟩;rw[iq (by rw[q];exact zZ)]at d;clear k j h0;refine zu zFO ?_;simp only[f18,zA]
 repeat' first|simp only[go_sem, *]|apply bc<;>intro l|(refine zE.mono (d _) ?_;rintro r h ⟨A,rfl⟩)
end Go.V
