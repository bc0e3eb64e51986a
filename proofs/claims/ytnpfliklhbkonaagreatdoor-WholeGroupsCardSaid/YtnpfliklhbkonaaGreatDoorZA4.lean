/- Parts. -/
import Derived.Test.YtnpfliklhbkonaaGreatDoorZA1
import Derived.ProofKit
set_option maxRecDepth 99999
set_option maxHeartbeats 0
set_option linter.unusedVariables false
namespace Go.Proofs.YtnpfliklhbkonaaGreatDoor
section
structure IsP(n:Nat)(p:LI):Prop where
 len:p=n
 rng:∀i,i<n->0<=p i 0/\p i 0<n
 inj:∀i j,i<n->j<n->p i 0=p j 0->i=j
def aL(p q:LI):LI:=p.map fun x=>q x.toNat 0
def idP(n:Nat):LI:=(List.range n).map fun(i:Nat)=>(i:Int)
theorem cR(p q:LI):(aL p q).length=p.length:=by simp[aL]
theorem bQ{p q:LI}{i:Nat}(h:i<p):(aL p q).getD i 0=q (p i 0).toNat 0:=by simp[aL,List.getD,h]
theorem cK(n:Nat):(idP n).length=n:=by simp[idP]
theorem eV{n i:Nat}(h:i<n):(idP n).getD i 0=(i:Int):=by simp[idP,List.getD,h]
theorem qH{a b:LI}(C:a.length=b.length)(h:∀i,i<a.length->a i 0=b i 0):a=b:=by refine eK C fun i A B=>?_;have:=h i A;simpa[List.getD,A,B] using this
theorem IsP.id(n:Nat):IsP n (idP n):=
 ⟨cK n,fun i hi=>by rw[eV hi];omega,fun i j hi A h=>by rw[eV hi,eV A] at h;omega⟩
theorem IsP.nat{n:Nat}{p:LI}(h:IsP n p){i:Nat}(hi:i<n):(p i 0).toNat<n/\p i 0=((p i 0).toNat:Int):=by have:=h.rng i hi;omega
theorem IsP.then{n:Nat}{p q:LI}(A:IsP n p)(hq:IsP n q):IsP n (aL p q):=by
 refine⟨by rw[cR,A.len],fun i hi=>?_,fun i j hi B h=>?_⟩
 .rw[bQ (by rw[A.len];exact hi)];exact hq.rng _ (A.nat hi).1
 .rw[bQ (by rw[A.len];exact hi),bQ (by rw[A.len];exact B)] at h;have C:=hq.inj _ _ (A.nat hi).1 (A.nat B).1 h;refine A.inj i j hi B ?_;have D:=(A.nat hi).2;have E:=(A.nat B).2;omega
theorem bS{n:Nat}{p q r:LI}(A:IsP n p)(hq:IsP n q):aL (aL p q) r=aL p (aL q r):=by
 refine qH (by simp[cR]) fun i hi=>?_;rw[cR,cR] at hi;have B:i<n:=by rw[<-A.len];exact hi
 rw[bQ (by rw[cR];exact hi),bQ hi,bQ hi,bQ (by rw[hq.len];exact(A.nat B).1)]
theorem jY{n:Nat}{p:LI}(A:IsP n p):aL p (idP n)=p:=by
 refine qH (cR _ _) fun i hi=>?_;rw[cR] at hi;have B:i<n:=by rw[<-A.len];exact hi
 rw[bQ hi,eV (A.nat B).1];exact(A.nat B).2.symm
theorem fS{n:Nat}{p:LI}(A:p=n):aL (idP n) p=p:=by refine qH (by rw[cR,cK,A]) fun i hi=>?_;rw[cR,cK] at hi;rw[bQ (by rw[cK];exact hi),eV hi,aZ8]
theorem X4:∀(m:Nat) (f:Nat->Nat),(∀i,i<m+1->f i<m)->∃i j,i<j/\j<m+1/\f i=f j:=by
 intro m
 induction m with
 |zero=>intro f h;exact aB (h 0 om) (aY5 _)
 |succ m ih=>
  intro f h;by_cases B:∃i,i<m+1/\f i=f (m+1)
  .obtain⟨i,hi,e⟩:=B;exact⟨i,m+1,om,om,e⟩
  .by_cases F:∃i,i<m+1/\f i=m
   .obtain⟨k,hk,I⟩:=F
    --the value of the last goes to k
    obtain⟨i,j,A,E,e⟩:=ih (fun i=>if f i=m then f (m+1) else f i) (fun i hi=>by have G:=h i om;have H:=h (m+1) om;have J:f (m+1)≠m:=fun e=>B ⟨k,hk,om⟩;split<;>omega);by_cases C:f i=m<;>by_cases D:f j=m
    .exact⟨i,j,A,om,om⟩
    .rw[iP C,iN D] at e;exact aB ⟨j,E,e.symm⟩ B
    .rw[iN C,iP D] at e;exact aB ⟨i,om,e⟩ B
    .rw[iN C,iN D] at e;exact⟨i,j,A,om,e⟩
   .obtain ⟨i, j, A, E, e⟩ := ih f (fun i hi => by
     have G:=h i om;have H:f i≠m:=fun e=>F ⟨i,hi,e⟩;omega)
    exact⟨i,j,A,om,e⟩
theorem IsP.surj{n:Nat}{p:LI}(A:IsP n p){x:Nat}(L:x<n):∃i,i<n/\p i 0=(x:Int):=by
 refine aY0 fun H=>?_;have E:∀i,i<n->(p i 0).toNat≠x:=fun i hi e=>H ⟨i,hi,oA ((A.nat hi).2)⟩;have hn:0<n:=om;obtain⟨m,rfl⟩:∃m,n=m+1:=⟨n-1,om⟩
 obtain⟨i,j,K,D,e⟩:=X4 m (fun i=>if(p i 0).toNat=m then x else(p i 0).toNat) (fun i hi=>by
  have G:=(A.nat hi).1;have F:=E i hi;split
  .rename_i hm;by_cases I:x=m
   .exact aB (hm.trans I.symm) F
   .omega
  .omega)
 have hi:i<m+1:=om;have J:(p i 0).toNat=(p j 0).toNat:=by
  by_cases B:(p i 0).toNat=m<;>by_cases C:(p j 0).toNat=m
  .omega
  .rw[iP B,iN C] at e;exact aB e.symm (E j D)
  .rw[iN B,iP C] at e;exact aB e (E i hi)
  .rw[iN B,iN C] at e;exact e
 have:=A.inj i j hi D (by have G:=(A.nat hi).2;have F:=(A.nat D).2;omega);omega
def bX(p:LI):LI:=(List.range p).map fun(x:Nat)=>((p.idxOf (x:Int):Nat):Int)
theorem tQ(p:LI):(bX p).length=p.length:=by simp[bX]
theorem MQ{n:Nat}{p:LI}(h:IsP n p){i:Nat}(hi:i<n):p.idxOf (p i 0)=i:=by
 have B:i<p:=by rw[h.len];exact hi
 have D:p i 0∈p:=by rw[aZ4,aZ3 B];exact aY6 B
 have A:=List.idxOf_lt_length_iff.2 D;have C:p[p.idxOf (p i 0)]=p i 0:=List.getElem_idxOf A;refine h.inj _ _ (by rw[<-h.len];exact A) hi ?_;rw[aZ4,aZ3 A];exact C
theorem WW{p:LI}{x:Nat}(A:x<p):(bX p).getD x 0=((p.idxOf (x:Int):Nat):Int):=by simp[bX,List.getD,A]
theorem kE{n:Nat}{p:LI}(h:IsP n p){i:Nat}(hi:i<n):(bX p).getD (p i 0).toNat 0=(i:Int):=by have A:=h.nat hi;rw[WW (by rw[h.len];exact A.1),<-A.2,MQ h hi]
theorem IsP.inv{n:Nat}{p:LI}(h:IsP n p):IsP n (bX p):=by
 refine⟨by rw[tQ,h.len],fun x A=>?_,fun x y A H e=>?_⟩
 .obtain⟨i,hi,e⟩:=h.surj A;have:=kE h hi;rw[e,aZ8] at this;rw[this];omega
 .obtain⟨i,hi,B⟩:=h.surj A;obtain⟨j,G,C⟩:=h.surj H;have D:=kE h hi;have E:=kE h G;rw[B,aZ8] at D;rw[C,aZ8] at E;rw[D,E] at e;have F:i=j:=om;subst F;rw[B] at C;omega
theorem qY{n:Nat}{p:LI}(h:IsP n p):aL p (bX p)=idP n:=by refine qH (by rw[cR,cK,h.len]) fun i hi=>?_;rw[cR,h.len] at hi;rw[bQ (by rw[h.len];exact hi),kE h hi,eV hi]
theorem tR{n:Nat}{p:LI}(h:IsP n p):aL (bX p) p=idP n:=by refine qH (by rw[cR,cK,tQ,h.len]) fun x A=>?_;rw[cR,tQ,h.len] at A;obtain⟨i,hi,e⟩:=h.surj A;have:=kE h hi;rw[e,aZ8] at this;rw[bQ (by rw[tQ,h.len];exact A),this,aZ8,e,eV A]
theorem rL{n:Nat}{p r:LI}(A:IsP n p)(B:IsP n r):aL (aL p (bX r)) r=p:=by rw[bS A B.inv,tR B,jY A]
theorem PB{n:Nat}{p r:LI}(A:IsP n p)(B:IsP n r):aL (aL p r) (bX r)=p:=by rw[bS A B,qY B,jY A]
inductive GenP (n:Nat) (S:LI->Prop):LI->Prop
 |one:GenP n S (idP n)
 |mul {a g:LI}:GenP n S a->S g->GenP n S (aL a g)
 |div {a g:LI}:GenP n S a->S g->GenP n S (aL a (bX g))
section
variable {n:Nat} {S T:LI->Prop}
theorem GenP.is(A:∀g,S g->IsP n g){a:LI}(h:GenP n S a):IsP n a:=by
 induction h with
 |one=>exact IsP.id n
 |mul _ hg ih=>exact ih.then (A _ hg)
 |div _ hg ih=>exact ih.then (A _ hg).inv
theorem GenP.mono(A:∀g,S g->T g){a:LI}(h:GenP n S a):GenP n T a:=by
 induction h with
 |one=>exact .one
 |mul _ hg ih=>exact .mul ih (A _ hg)
 |div _ hg ih=>exact .div ih (A _ hg)
theorem GenP.gen(B:∀g,S g->IsP n g){g:LI}(A:S g):GenP n S g:=by have:=GenP.mul (n:=n) (S:=S) .one A;rwa[fS (B g A).len] at this
theorem GenP.prod(A:∀g,S g->IsP n g){a b:LI}(C:GenP n S a)(B:GenP n S b):GenP n S (aL a b):=by
 induction B with
 |one=>rw[jY (C.is A)];exact C
 |mul B hg ih=>rw[<-bS (C.is A) (B.is A)];exact .mul ih hg
 |div B hg ih=>rw[<-bS (C.is A) (B.is A)];exact .div ih hg
theorem CX{a b:LI}(B:IsP n a)(A:IsP n b):bX (aL a b)=aL (bX b) (bX a):=by
 have C:=(B.then A)
 have D:aL (aL a b) (aL (bX b) (bX a))=idP n:=by rw[bS B A,<-bS A A.inv,qY A,fS B.inv.len,qY B]
 calc bX (aL a b)=aL (bX (aL a b)) (idP n):=(jY C.inv).symm
  _=aL (bX (aL a b)) (aL (aL a b) (aL (bX b) (bX a))):=by rw[D]
  _=aL (aL (bX (aL a b)) (aL a b)) (aL (bX b) (bX a)):=(bS C.inv C).symm
  _=aL (bX b) (bX a):=by rw[tR C,fS (A.inv.then B.inv).len]
theorem WX(n:Nat):bX (idP n)=idP n:=by have:=qY (IsP.id n);rwa[fS (IsP.id n).inv.len] at this
theorem O0{a:LI}(A:IsP n a):bX (bX a)=a:=by
 have B:=qY A.inv
 calc bX (bX a)=aL (aL a (bX a)) (bX (bX a)):=by rw[qY A,fS A.inv.inv.len]
  _=aL a (aL (bX a) (bX (bX a))):=bS A A.inv
  _=a:=by rw[B,jY A]
theorem GenP.inv(A:∀g,S g->IsP n g){a:LI}(B:GenP n S a):GenP n S (bX a):=by
 induction B with
 |one=>rw[WX];exact .one
 |mul B hg ih=>rw[CX (B.is A) (A _ hg)];refine GenP.prod A ?_ ih;have:=GenP.div (n:=n) (S:=S) .one hg;rwa[fS (A _ hg).inv.len] at this
 |div B hg ih=>rw[CX (B.is A) (A _ hg).inv,O0 (A _ hg)];exact GenP.prod A (GenP.gen A hg) ih
end
structure vE(n:Nat)(R:Nat->Nat->Option (LI)):Prop where
 is:∀b x r,R b x=some r->IsP n r
 fix:∀b x r,R b x=some r->∀i,i<b->r i 0=(i:Int)
 to:∀b x r,R b x=some r->r b 0=(x:Int)
 lt:∀b x r,R b x=some r->b<n
 self:∀b,b<n->R b b=some (idP n)
def pN(R:Nat->Nat->Option (LI))(n:Nat):Nat->Nat->LI->Prop
 |0,b,p=>True
 |f+1,b,p=>∃r,R b (p b 0).toNat=some r/\pN R n f (b+1) (aL p (bX r))
theorem pN.more{R A:Nat->Nat->Option (LI)}{n:Nat}(h:∀b x r,R b x=some r->A b x=some r):∀{f b:Nat} {p:LI},pN R n f b p->pN A n f b p
 |0,_,_,_=>trivial
 |f+1,b,p,⟨r,h1,h2⟩=>⟨r,h _ _ _ h1,pN.more h h2⟩
theorem GV{R:Nat->Nat->Option (LI)}{n:Nat}(hR:vE n R){b:Nat}{p r:LI}(D:IsP n p)(E:∀i,i<b->p i 0=(i:Int))(F:b<n)(B:R b (p b 0).toNat=some r):IsP n (aL p (bX r))/\∀i,i<b+1->(aL p (bX r)).getD i 0=(i:Int):=by
 have hi:=hR.is _ _ _ B;refine⟨D.then hi.inv,fun i G=>?_⟩;have C:i<n:=om;rw[bQ (by rw[D.len];exact C)];have A:=kE hi C;by_cases e:i=b
 .subst e;rw[hR.to _ _ _ B] at A;rwa[aZ8] at A
 .rw[E i om];rwa[hR.fix _ _ _ B i om] at A
def sP(n:Nat)(p:LI):Nat->Nat
 |0=>0
 |k+1=>sP n p k*n+(p k 0).toNat
theorem OV{n:Nat}{p:LI}(h:IsP n p)(hn:0<n):∀k,k<=n->sP n p k<n^k
 |0,_=>by simp[sP]
 |k+1,hk=>by
  have A:=OV h hn k om;have B:=(h.nat (i:=k) om).1;rw[sP,Nat.pow_succ]
  calc sP n p k*n+(p k 0).toNat<sP n p k*n+n:=om
   _=(sP n p k+1)*n:=by rw[Nat.add_mul,Nat.one_mul]
   _<=n^k*n:=Nat.mul_le_mul_right _ A
theorem JR{n:Nat}{p q:LI}(B:IsP n p)(hq:IsP n q):∀k,k<=n->sP n p k=sP n q k->∀i,i<k->p i 0=q i 0
 |0,_,_,i,hi=>aB hi (aY5 _)
 |k+1,hk,h,i,hi=>by
  have C:=B.nat (i:=k) om;have D:=hq.nat (i:=k) om;rw[sP,sP] at h;have E:(sP n p k*n+(p k 0).toNat)/n=sP n p k:=by rw[Nat.mul_comm,Nat.mul_add_div om,Nat.div_eq_of_lt C.1,Nat.add_zero]
  have F:(sP n q k*n+(q k 0).toNat)/n=sP n q k:=by rw[Nat.mul_comm,Nat.mul_add_div om,Nat.div_eq_of_lt D.1,Nat.add_zero]
  have A:sP n p k=sP n q k:=by rw[<-E,<-F,h]
  by_cases e:i=k
  .subst e;rw[A] at h;omega
  .exact JR B hq k om A i om
def nL(n:Nat)(g:LI):Nat->LI
 |0=>idP n
 |k+1=>aL (nL n g k) g
theorem fV{n:Nat}{g:LI}(h:IsP n g):∀k,IsP n (nL n g k)
 |0=>IsP.id n
 |k+1=>(fV h k).then h
theorem KW{n:Nat}{g:LI}(h:IsP n g)(a:Nat):∀b,nL n g (a+b)=aL (nL n g a) (nL n g b)
 |0=>(jY (fV h a)).symm
 |b+1=>by show aL (nL n g (a+b)) g=aL (nL n g a) (aL (nL n g b) g);rw[KW h a b,bS (fV h a) (fV h b)]
theorem S8{n:Nat}{g:LI}(h:IsP n g):∃m,nL n g (m+1)=idP n:=by
 rcases Nat.eq_zero_or_pos n with C|hn
 .subst C;exact⟨0,qH (by rw[(fV h 1).len,cK]) fun i hi=>by rw[(fV h 1).len] at hi;omega⟩
 .obtain⟨i,j,D,_,e⟩:=X4 (n^n) (fun i=>sP n (nL n g i) n) (fun i _=>OV (fV h i) hn n zr);have A:nL n g i=nL n g j:=qH (by rw[(fV h i).len,(fV h j).len]) fun k hk=>by
   rw[(fV h i).len] at hk;exact JR (fV h i) (fV h j) n zr e k hk
  obtain⟨m,rfl⟩:∃m,j=i+(m+1):=⟨j-i-1,om⟩
  refine⟨m,?_⟩;rw[KW h] at A;have B:aL (bX (nL n g i)) (aL (nL n g i) (nL n g (m+1)))=aL (bX (nL n g i)) (nL n g i):=by rw[<-A]
  rw[<-bS (fV h i).inv (fV h i),tR (fV h i),fS (fV h _).len] at B;exact B
theorem O1{n:Nat}{g:LI}(h:IsP n g):∃m,bX g=nL n g m:=by
 obtain⟨m,B⟩:=S8 h;refine⟨m,?_⟩;have A:aL (nL n g m) g=idP n:=B
 calc bX g=aL (idP n) (bX g):=(fS h.inv.len).symm
  _=aL (aL (nL n g m) g) (bX g):=by rw[A]
  _=nL n g m:=PB (fV h m) h
def Ch(R:Nat->Nat->Option (LI))(n b:Nat)(p:LI):Prop:=IsP n p/\(∀i,i<b->p i 0=(i:Int))/\pN R n (n-b) b p
section
variable {R:Nat->Nat->Option (LI)} {n:Nat} (hR:vE n R)
include hR
omit hR in
theorem Ch.last{p:LI}(h:Ch R n n p):p=idP n:=qH (by rw[h.1.len,cK]) fun i hi=>by rw[h.1.len] at hi;rw[h.2.1 i hi,eV hi]
theorem oD{b:Nat}(E:b<n){p:LI}:Ch R n b p↔∃q x r,Ch R n (b+1) q/\R b x=some r/\p=aL q r:=by
 have G:n-b=(n-(b+1))+1:=om;constructor
 .rintro⟨B,C,D⟩;rw[G] at D;obtain⟨r,A,H⟩:=D;have F:=GV hR B C E A;exact⟨aL p (bX r),_,r,⟨F.1,F.2,H⟩,A,(rL B (hR.is _ _ _ A)).symm⟩
 .rintro⟨q,x,r,⟨B,C,D⟩,A,rfl⟩;have hi:=hR.is _ _ _ A;have J:(aL q r).getD b 0=(x:Int):=by
   rw[bQ (by rw[B.len];exact E),C b om,aZ8,hR.to _ _ _ A]
  refine⟨B.then hi,fun i I=>?_,?_⟩
  .rw[bQ (by rw[B.len];omega),C i om,aZ8,hR.fix _ _ _ A i I]
  .rw[G];refine⟨r,?_,?_⟩
   .rw[J,aZ8];exact A
   .rw[PB B hi];exact D
theorem OT:∀{f b:Nat},n-b=f->b<=n->Ch R n b (idP n)
 |0,b,hf,hb=>⟨IsP.id n,fun i hi=>eV om,by rw[hf];trivial⟩
 |f+1,b,hf,hb=>(oD hR om).2 ⟨idP n,b,idP n,OT (f:=f) om om,hR.self b om,(fS (cK n)).symm⟩
theorem NT{b x:Nat}{r:LI}(A:R b x=some r):Ch R n b r:=by have B:=hR.lt _ _ _ A;exact(oD hR B).2 ⟨idP n,x,r,OT hR rfl om,A,(fS (hR.is _ _ _ A).len).symm⟩
theorem ig{b:Nat}(A:b<n){p:LI}(h:Ch R n (b+1) p):Ch R n b p:=
 (oD hR A).2 ⟨p,b,idP n,h,hR.self b A,(jY h.1).symm⟩
end
structure ZN(R:Nat->Nat->Option (LI))(G:Nat->LI->Prop)(n b:Nat):Prop where
 is:∀c g,b<=c->G c g->IsP n g
 cl:∀c x r g,b<=c->c<n->R c x=some r->G c g->Ch R n c (aL r g)
 rep:∀c x r,b<=c->R c x=some r->GenP n (G c) r
 up:∀c g,b<=c->c<n->G (c+1) g->GenP n (G c) g
theorem rJ{R:Nat->Nat->Option (LI)}{G:Nat->LI->Prop}{n:Nat}(hR:vE n R):∀{f b:Nat},n-b=f->b<=n->ZN R G n b->((∀g,G n g->g=idP n)->∀p,Ch R n b p↔GenP n (G b) p)
 |0,b,hf,hb,hc,hG,p=>by
  obtain rfl:b=n:=om;constructor
  .intro h;rw[Ch.last h];exact .one
  .intro h;have:p=idP b:=by
    induction h with
    |one=>rfl
    |mul _ A B=>rw[B,hG _ A,fS (cK _)]
    |div _ A B=>rw[B,hG _ A,WX,fS (cK _)]
   rw[this];exact OT hR rfl zr
 |f+1,b,hf,hb,hc,hG,p=>by
  have C:b<n:=om;have B:=rJ hR (f:=f) (b:=b+1) om om ⟨fun c g h=>hc.is c g om,fun c x r g h=>hc.cl c x r g om,fun c x r h=>hc.rep c x r om,fun c g h=>hc.up c g om⟩ hG;have D:∀g,G b g->IsP n g:=fun g A=>hc.is b g zr A;have K:∀g,G (b+1) g->IsP n g:=fun g A=>hc.is (b+1) g om A;have O:∀q,GenP n (G (b+1)) q->GenP n (G b) q:=fun q hq=>by
   induction hq with
   |one=>exact .one
   |mul _ A ihq=>exact GenP.prod D ihq (hc.up b _ zr C A)
   |div _ A ihq=>exact GenP.prod D ihq (GenP.inv D (hc.up b _ zr C A))
  have H:∀a g,Ch R n b a->G b g->Ch R n b (aL a g):=fun a g E A=>by obtain⟨q,x,r,hq,F,rfl⟩:=(oD hR C).1 E;obtain⟨J,Q,P,I,N,e⟩:=(oD hR C).1 (hc.cl b x r g zr C F A);refine(oD hR C).2 ⟨aL q J,Q,P,(B _).2 (GenP.prod K ((B q).1 hq) ((B J).1 I)),N,?_⟩;rw[bS hq.1 (hR.is _ _ _ F),e,bS hq.1 I.1]
  have M:∀a g,Ch R n b a->G b g->∀k,Ch R n b (aL a (nL n g k)):=fun a g E A k=>by
   induction k with
   |zero=>rw[nL,jY E.1];exact E
   |succ k ihk=>rw[nL,<-bS E.1 (fV (D g A) k)];exact H _ g ihk A
  constructor
  .intro h;obtain⟨q,x,r,hq,F,rfl⟩:=(oD hR C).1 h;exact GenP.prod D (O q ((B q).1 hq)) (hc.rep b x r zr F)
  .intro h
   induction h with
   |one=>exact OT hR rfl om
   |mul _ A ihp=>exact H _ _ ihp A
   |div _ A ihp=>obtain⟨m,L⟩:=O1 (D _ A);rw[L];exact M _ _ ihp A m
def dN(b:Nat)(p:LI):Prop:=∀i,i<b->p i 0=(i:Int)
structure lQ(n:Nat)(Γ:LI->Prop):Prop where
 is:∀p,Γ p->IsP n p
 one:Γ (idP n)
 mul:∀p q,Γ p->Γ q->Γ (aL p q)
 inv:∀p,Γ p->Γ (bX p)
theorem GenP.grp{n:Nat}{S:LI->Prop}(A:∀g,S g->IsP n g):lQ n (GenP n S):=
 ⟨fun p h=>h.is A,.one,fun p q h k=>GenP.prod A h k,fun p h=>GenP.inv A h⟩
theorem dN.mul{n b:Nat}{p q:LI}(A:IsP n p)(B:b<=n)(h:dN b p)(k:dN b q):dN b (aL p q):=fun i hi=>by rw[bQ (by rw[A.len];omega),h i hi,aZ8,k i hi]
theorem dN.inv{n b:Nat}{p:LI}(A:IsP n p)(B:b<=n)(h:dN b p):dN b (bX p):=fun i hi=>by have:=kE A (i:=i) om;rwa[h i hi,aZ8] at this
def StC(Γ:LI->Prop)(n b:Nat)(r:LI)(C:Nat)(p:LI):Prop:=
 (∃q,Γ q/\dN (b+1) q/\p=aL q r)/\∀q,Γ q->dN (b+1) q->(∀i,i<C->(aL q r).getD i 0=p i 0)\/∃k,k<C/\(∀i,i<k->(aL q r).getD i 0=p i 0)/\p k 0<(aL q r).getD k 0
section
variable {n:Nat} {Γ:LI->Prop} (hΓ:lQ n Γ)
include hΓ
theorem T9{b:Nat}(C:b<n){r:LI}(B:Γ r):StC Γ n b r (b+1) r:=by refine⟨⟨idP n,hΓ.one,fun i hi=>eV om,(fS (hΓ.is r B).len).symm⟩,fun q hq A=>.inl fun i hi=>?_⟩;rw[bQ (by rw[(hΓ.is q hq).len];omega),A i hi,aZ8]
theorem Y5{b C:Nat}(L:C<n)(g:b<C){r p s:LI}(a:Γ r)(h:StC Γ n b r C p)(M:Γ s)(N:dN C s)(Z:∀t,Γ t->dN C t->p (s C 0).toNat 0<=p (t C 0).toNat 0):StC Γ n b r (C+1) (aL s p):=by
 obtain⟨⟨A,I,T,rfl⟩,U⟩:=h;have H:=hΓ.is s M;have B:=hΓ.is A I;have J:=hΓ.is r a;have j:=B.then J;have F:∀i,i<C->(aL s (aL A r)).getD i 0=(aL A r).getD i 0:=fun i hi=>by rw[bQ (by rw[H.len];omega),N i hi,aZ8]
 refine⟨⟨aL s A,hΓ.mul _ _ M I,dN.mul H om (fun i hi=>N i om) T,(bS H B).symm⟩,fun q hq X=>?_⟩;have G:=hΓ.is q hq;rcases U q hq X with E|⟨k,hk,E,Y⟩
 .
  have O:=hΓ.mul _ _ hq (hΓ.inv _ I);have d:=hΓ.is _ O;have P:aL (aL q (bX A)) (aL A r)=aL q r:=by rw[bS G B.inv,<-bS B.inv B,tR B,fS J.len]
  have c:dN C (aL q (bX A)):=fun i hi=>by
   have D:i<n:=om;have K:=E i hi;rw[bQ (by rw[G.len];exact D),bQ (by rw[B.len];exact D)] at K;have V:=J.inj _ _ (G.nat D).1 (B.nat D).1 K;have W:=kE B D;rw[bQ (by rw[G.len];exact D),V];exact W
  have f:=Z _ O c;have Q:(aL q r).getD C 0=(aL A r).getD ((aL q (bX A)).getD C 0).toNat 0:=by rw[<-P,bQ (by rw[d.len];exact L)]
  have R:(aL s (aL A r)).getD C 0=(aL A r).getD (s C 0).toNat 0:=bQ (by rw[H.len];exact L);by_cases e:(aL q r).getD C 0=(aL s (aL A r)).getD C 0
  .refine .inl fun i hi=>?_;by_cases S:i=C
   .subst S;exact e
   .rw[F i om];exact E i om
  .refine .inr ⟨C,om,fun i hi=>by rw[F i hi];exact E i hi,?_⟩;rw[Q,R] at e|-;omega
 .refine .inr ⟨k,om,fun i hi=>by rw[F i om];exact E i hi,?_⟩;rw[F k hk];exact Y
theorem N1{b:Nat}(u:b<n){r A p R:LI}(P:Γ r)(Q:Γ A)(g:dN b r)(l:dN b A)(f:r b 0=A b 0)(h:StC Γ n b r n p)(Y:StC Γ n b A n R):p=R:=by
 have D:=hΓ.is r P;have B:=hΓ.is A Q
 --d=r A⁻¹lies in the stabilizer
 have J:=hΓ.mul _ _ P (hΓ.inv _ Q);have K:=hΓ.is _ J;have M:dN (b+1) (aL r (bX A)):=fun i hi=>by
  have N:i<n:=om;rw[bQ (by rw[D.len];exact N)];have I:=kE B N;by_cases e:i=b
  .subst e;rw[f];exact I
  .rw[g i om,aZ8];rw[l i om,aZ8] at I;exact I
 obtain⟨⟨q,S,m,rfl⟩,Z⟩:=h;obtain⟨⟨E,T,o,rfl⟩,a⟩:=Y;have H:=hΓ.is q S;have L:=hΓ.is E T;have W:aL (aL q (aL r (bX A))) A=aL q r:=by rw[bS H K,rL D B]
 have X:aL (aL E (bX (aL r (bX A)))) r=aL E A:=by
  have c:aL (bX (aL r (bX A))) r=A:=by rw[CX D B.inv,O0 B,bS B D.inv,tR D,jY B]
  rw[bS L K.inv,c]
 have F:=Z (aL E (bX (aL r (bX A)))) (hΓ.mul _ _ T (hΓ.inv _ J)) (dN.mul L om o (dN.inv K om M));have G:=a (aL q (aL r (bX A))) (hΓ.mul _ _ S J) (dN.mul H om m M);rw[X] at F;rw[W] at G;have O:(aL q r).length=(aL E A).length:=by rw[cR,cR,H.len,L.len]
 have hn:(aL q r).length=n:=by rw[cR,H.len]
 rcases F with F|⟨k,hk,U,s⟩
 .exact qH O fun i hi=>(F i (by rw[<-hn];exact hi)).symm
 .rcases G with G|⟨j,v,V,t⟩
  .exact qH O fun i hi=>G i (by rw[<-hn];exact hi)
  .exfalso;rcases Nat.lt_trichotomy k j with C|C|C
   .have:=V k C;omega
   .subst C;omega
   .have:=U j C;omega
end
abbrev fH:=Nat->Nat->Option (LI)
abbrev jM:=Nat->LI->Prop
structure sK(b:Nat)(R:fH)(G:jM)(R':fH)(G':jM):Prop where
 r:∀c x s,R c x=some s->R' c x=some s
 rl:∀c x,c<b->R' c x=R c x
 g:∀c h,G c h->G' c h
 gl:∀c h,c<b->G' c h->G c h
theorem sK.refl(b:Nat)(R:fH)(G:jM):sK b R G R G:=⟨fun _ _ _ h=>h,fun _ _ _=>rfl,fun _ _ h=>h,fun _ _ _ h=>h⟩
theorem sK.trans{b:Nat}{R D E:fH}{G B C:jM}(h:sK b R G D B)(k:sK b D B E C):sK b R G E C:=
 ⟨fun c x s e=>k.r c x s (h.r c x s e),fun c x A=>(k.rl c x A).trans (h.rl c x A),fun c g e=>k.g c g (h.g c g e),fun c g A e=>h.gl c g A (k.gl c g A e)⟩
theorem sK.mono{b C:Nat}{R B:fH}{G A:jM}(h:sK C R G B A)(E:b<=C):sK b R G B A:=
 ⟨h.r,fun c x D=>h.rl c x om,h.g,fun c g D=>h.gl c g om⟩
theorem Ch.more{R A:fH}{n b:Nat}{p:LI}(h:Ch R n b p)(B:∀c x s,R c x=some s->A c x=some s):Ch A n b p:=⟨h.1,h.2.1,pN.more B h.2.2⟩
structure iR(n b:Nat)(R:fH)(G:jM):Prop where
 rep:vE n R
 comp:ZN R G n b
 fix:∀c g,b<=c->G c g->IsP n g/\dN c g
 last:∀g,¬G n g
structure I3(n b:Nat)(p:LI)(R:fH)(G:jM)(R':fH)(G':jM):Prop where
 ext:sK b R G R' G'
 ok:iR n b R' G'
 has:Ch R' n b p
 gen:∀h,G' b h->G b h\/h=p
structure I4(n b:Nat)(p:LI)(R:fH)(G:jM)(R':fH)(G':jM):Prop where
 ext:sK b R G R' G'
 ok:iR n (b+1) R' G'
 has:Ch R' n b p
 same:∀h,G' b h->G b h
 up:∀g,G' (b+1) g->GenP n (G b) g
 new:∀x r,R b x=none->R' b x=some r->GenP n (G b) r/\∀g,G b g->Ch R' n b (aL r g)
theorem UI{n b:Nat}{p r:LI}{R C:fH}{G B:jM}(hR:vE n R)(I:b<n)(J:IsP n p)(D:∀g,G b g->IsP n g)(K:GenP n (G b) p)(L:GenP n (G b) r)(N:∀g,G (b+1) g->GenP n (G b) g){x:Nat}(E:R b x=some r)
 (h:I3 n (b+1) (aL p (bX r)) R G C B):I4 n b p R G C B:=by
 have M:=hR.is _ _ _ E;refine⟨h.ext.mono om,h.ok,?_,fun g A=>h.ext.gl b g om A,fun g A=>?_,fun y s O F=>?_⟩
 .exact(oD h.ok.rep I).2 ⟨_,x,r,h.has,h.ext.r _ _ _ E,(rL J M).symm⟩
 .rcases h.gen g A with H|rfl
  .exact N g H
  .exact GenP.prod D K (GenP.inv D L)
 .rw[h.ext.rl b y om,O] at F;cases F
def mD(R:fH)(b x:Nat)(p:LI):fH:=fun c y=>if c=b/\y=x then some p else R c y
theorem tZ{R:fH}{G:jM}{b x:Nat}{p:LI}(A:R b x=none):sK b R G (mD R b x p) G:=by
 refine⟨fun c y s h=>?_,fun c y B=>?_,fun _ _ h=>h,fun _ _ _ h=>h⟩
 .unfold mD;rw[iN]
  .exact h
  .rintro⟨rfl,rfl⟩;rw[A] at h;cases h
 .unfold mD;rw[iN om]
theorem fq{n b x:Nat}{R:fH}{p:LI}(hR:vE n R)(A:b<n)(D:IsP n p)(C:dN b p)(E:p b 0=(x:Int))(hn:R b x=none):vE n (mD R b x p):=by
 have key:∀c y s,mD R b x p c y=some s->(c=b/\y=x/\s=p)\/R c y=some s:=fun c y s h=>by
  unfold mD at h;split at h
  .rename_i e;exact .inl ⟨e.1,e.2,(aZ0 h).symm⟩
  .exact .inr h
 refine⟨fun c y s h=>?_,fun c y s h=>?_,fun c y s h=>?_,fun c y s h=>?_,fun c B=>?_⟩
 .rcases key c y s h with⟨_,_,rfl⟩|h
  .exact D
  .exact hR.is _ _ _ h
 .rcases key c y s h with⟨rfl,_,rfl⟩|h
  .exact C
  .exact hR.fix _ _ _ h
 .rcases key c y s h with⟨rfl,rfl,rfl⟩|h
  .exact E
  .exact hR.to _ _ _ h
 .rcases key c y s h with⟨rfl,_,_⟩|h
  .exact A
  .exact hR.lt _ _ _ h
 .exact(tZ (G:=fun _ _=>False) hn).r c c _ (hR.self c B)
theorem V4{n b x:Nat}{R:fH}{G:jM}{p:LI}(hn:R b x=none)(h:ZN R G n (b+1)):ZN (mD R b x p) G n (b+1):=by
 have C:∀c y,b+1<=c->mD R b x p c y=R c y:=fun c y A=>by unfold mD;rw[iN om]
 refine⟨h.is,fun c y r g A D B E=>(h.cl c y r g A D (by rw[<-C c y A];exact B) E).more (tZ (G:=G) hn).r,fun c y r A B=>h.rep c y r A (by rw[<-C c y A];exact B),h.up⟩
theorem UJ{n b x:Nat}{p:LI}{R A:fH}{G B:jM}(F:GenP n (G b) p)(hn:R b x=none)
 (ext:sK b (mD R b x p) G A B)(J:iR n (b+1) A B)(K:∀h,B b h->G b h)(L:∀g,B (b+1) g->GenP n (G b) g)(all:∀g,G b g->Ch A n b (aL p g))(E:Ch A n b p)
 (I:∀y r,mD R b x p b y=none->A b y=some r->GenP n (G b) r/\∀g,G b g->Ch A n b (aL r g)):I4 n b p R G A B:=by
 refine⟨(tZ hn).trans ext,J,E,K,L,fun y r H D=>?_⟩;by_cases e:y=x
 .subst e;have C:=ext.r b y p (by unfold mD;rw[iP ⟨rfl,rfl⟩]);rw[D] at C;obtain rfl:=aZ0 C;exact⟨F,all⟩
 .exact I y r (by unfold mD;rw[iN (fun h=>e h.2)];exact H) D
def wX(G:jM)(b:Nat)(p:LI):jM:=fun c g=>G c g\/(c=b/\g=p)
theorem U3(R:fH)(G:jM)(b:Nat)(p:LI):sK b R G R (wX G b p):=
 ⟨fun _ _ _ h=>h,fun _ _ _=>rfl,fun _ _ h=>.inl h,fun c g A h=>h.elim id fun h=>om⟩
theorem J7{n b:Nat}{p:LI}{R E:fH}{G C:jM}(U:b<n)(H:iR n b R G)(P:IsP n p)(V:dN b p)
 (ext:sK b R (wX G b p) E C)(D:iR n (b+1) E C)(K:∀h,C b h->wX G b p b h)(up:∀g,C (b+1) g->GenP n (wX G b p b) g)
 (T:∀x r,R b x=some r->Ch E n b (aL r p))(S:∀x r,R b x=none->E b x=some r->GenP n (wX G b p b) r/\∀g,wX G b p b g->Ch E n b (aL r g)):I3 n b p R G E C:=by
 have N:=(U3 R G b p).trans ext;have L:∀h,wX G b p b h->G b h\/h=p:=fun h M=>M.elim .inl fun e=>.inr e.2;have O:∀g,C b g->IsP n g/\dN b g:=fun g A=>by
  rcases L g (K g A) with h|rfl
  .exact H.fix b g zr h
  .exact⟨P,V⟩
 have Q:∀r,GenP n (wX G b p b) r->GenP n (C b) r:=fun r B=>B.mono fun g A=>ext.g b g A;refine⟨N,⟨D.rep,⟨fun c g I A=>?_,fun c x r g I J B A=>?_,fun c x r I B=>?_,fun c g I J A=>?_⟩,fun c g I A=>?_,D.last⟩,?_,fun h M=>L h (K h M)⟩
 .by_cases e:c=b
  .subst e;exact(O g A).1
  .exact D.comp.is c g om A
 .by_cases e:c=b
  .subst e;cases hx:R c x with
   |none=>exact(S x r hx B).2 g (K g A)
   |some s=>
    have F:=ext.r c x s hx;rw[B] at F;obtain rfl:=aZ0 F;rcases L g (K g A) with h|rfl
    .exact(H.comp.cl c x r g zr J hx h).more ext.r
    .exact T x r hx
  .exact D.comp.cl c x r g om J B A
 .by_cases e:c=b
  .subst e;cases hx:R c x with
   |none=>exact Q r (S x r hx B).1
   |some s=>have F:=ext.r c x s hx;rw[B] at F;obtain rfl:=aZ0 F;exact(H.comp.rep c x r zr hx).mono fun g A=>N.g c g A
  .exact D.comp.rep c x r om B
 .by_cases e:c=b
  .subst e;exact Q g (up g A)
  .exact D.comp.up c g om J A
 .by_cases e:c=b
  .subst e;exact O g A
  .exact D.fix c g om A
 .have:=T b (idP n) (H.rep.self b U);rwa[fS P.len] at this
structure BR(n b:Nat)(S:LI->Prop)(R:fH)(G:jM)(R':fH)(G':jM):Prop where
 ext:sK b R G R' G'
 ok:iR n (b+1) R' G'
 same:∀h,G' b h->G b h
 up:∀g,G' (b+1) g->GenP n (G b) g
 has:∀p,S p->Ch R' n b p
 new:∀x r,R b x=none->R' b x=some r->GenP n (G b) r/\∀g,G b g->Ch R' n b (aL r g)
theorem BR.start{n b:Nat}{R:fH}{G:jM}(C:iR n (b+1) R G)(D:∀g,G (b+1) g->GenP n (G b) g):BR n b (fun _=>False) R G R G:=
 ⟨sK.refl b R G,C,fun _ h=>h,D,fun _ h=>h.elim,fun x r B A=>by rw[B] at A;cases A⟩
theorem BR.step{n b:Nat}{S:LI->Prop}{p:LI}{R C H:fH}{G A F:jM}(h:BR n b S R G C A)(k:I4 n b p C A H F):BR n b (fun q=>S q\/q=p) R G H F:=by
 have K:∀g,A b g↔G b g:=fun g=>⟨h.same g,h.ext.g b g⟩
 have B:∀q,GenP n (A b) q->GenP n (G b) q:=fun q hq=>hq.mono fun g B=>(K g).1 B;refine⟨h.ext.trans k.ext,k.ok,fun g E=>h.same g (k.same g E),fun g E=>B g (k.up g E),fun q hq=>?_,fun x r L J=>?_⟩
 .rcases hq with hq|rfl
  .exact(h.has q hq).more k.ext.r
  .exact k.has
 .cases e:C b x with
  |none=>have:=k.new x r e J;exact⟨B r this.1,fun g D=>this.2 g ((K g).2 D)⟩
  |some s=>have I:=k.ext.r b x s e;rw[J] at I;obtain rfl:=aZ0 I;have:=h.new x r L e;exact⟨this.1,fun g D=>(this.2 g D).more k.ext.r⟩
def mG(R:fH)(c:Nat):Nat->Nat
 |0=>0
 |x+1=>mG R c x+if(R c x).isNone then 1 else 0
def dZ(R:fH)(n:Nat):Nat->Nat
 |0=>0
 |c+1=>dZ R n c+mG R c n
theorem rR{R A:fH}(h:∀c x s,R c x=some s->A c x=some s)(c:Nat):∀x,mG A c x<=mG R c x
 |0=>zr
 |x+1=>by
  have B:=rR h c x;unfold mG;cases e:R c x with
  |none=>simp;split<;>omega
  |some s=>rw[h c x s e];simp;exact B
theorem yC{R A:fH}(h:∀c x s,R c x=some s->A c x=some s)(n:Nat):∀c,dZ A n c<=dZ R n c
 |0=>zr
 |c+1=>by have B:=yC h n c;have:=rR h c n;unfold dZ;omega
theorem CZ{R A:fH}(h:∀c x s,R c x=some s->A c x=some s)(c x:Nat)(B:R c x=none)(C:A c x≠none):∀m,x<m->mG A c m<mG R c m
 |0,hm=>aB hm (aY5 _)
 |m+1,hm=>by
  unfold mG;by_cases e:x=m
  .subst e;have:=rR h c x;rw[B];cases e:A c x with
   |none=>exact aB e C
   |some s=>simp;omega
  .have:=CZ h c x B C m om;cases e2:R c m with
   |none=>simp;split<;>omega
   |some s=>rw[h c m s e2];simp;exact this
theorem C5{R A:fH}(h:∀c x s,R c x=some s->A c x=some s){n c x:Nat}(D:x<n)(B:R c x=none)(C:A c x≠none):∀m,c<m->dZ A n m<dZ R n m
 |0,hm=>aB hm (aY5 _)
 |m+1,hm=>by
  unfold dZ;by_cases e:c=m
  .subst e;have:=yC h n c;have:=CZ h c x B C n D;omega
  .have:=C5 h D B C m om;have:=rR h m n;omega
def chN:Nat->Nat->Nat
 |_,0=>1
 |0,_+1=>0
 |m+1,l+1=>chN m l+chN m (l+1)
theorem tC(m:Nat):chN m 0=1:=by cases m<;>rfl
theorem L7:∀{m l:Nat},m<l->chN m l=0
 |_,0,h=>aB h (aY5 _)
 |0,_+1,_=>rfl
 |m+1,l+1,h=>by simp only[chN,L7 (show m<l from om),L7 (show m<l+1 from om)]
theorem B5:∀m,chN m m=1
 |0=>rfl
 |m+1=>by simp only[chN,B5 m,L7 (Nat.lt_succ_self m)]
theorem B6:∀s a b,a+b=s->chN s a=chN s b
 |0,a,b,h=>by
  obtain rfl:a=0:=om;obtain rfl:b=0:=om;rfl
 |s+1,0,b,h=>by
  obtain rfl:b=s+1:=om;rw[B5,tC]
 |s+1,a+1,0,h=>by
  obtain rfl:a=s:=om;rw[B5,tC]
 |s+1,a+1,b+1,h=>by have A:=B6 s a (b+1) om;have B:=B6 s (a+1) b om;simp only[chN];omega
theorem xD:∀n k,(k+1)*chN (n+1) (k+1)=(n+1)*chN n k
 |0,0=>rfl
 |0,k+1=>by simp[chN]
 |n+1,0=>by have h:=xD n 0;simp only[chN,tC] at h|-;omega
 |n+1,k+1=>by
  have C:=xD n k;have D:=xD n (k+1);have A:chN (n+1+1) (k+1+1)=chN (n+1) (k+1)+chN (n+1) (k+1+1):=rfl;have B:chN (n+1) (k+1)=chN n k+chN n (k+1):=rfl;rw[A,Nat.mul_add,D,Nat.succ_mul (k+1),C];have E:(n+1)*chN n k+(n+1)*chN n (k+1)=(n+1)*chN (n+1) (k+1):=by rw[<-Nat.mul_add,<-B]
  have F:(n+1+1)*chN (n+1) (k+1)=(n+1)*chN (n+1) (k+1)+chN (n+1) (k+1):=Nat.succ_mul _ _;omega
theorem BC(r:Nat):∀m l,chN m l*r^l<=(r+1)^m
 |m,0=>by rw[tC];simp;exact Nat.pow_pos (Nat.succ_pos r)
 |0,l+1=>by simp[chN]
 |m+1,l+1=>by
  have A:=BC r m l;have D:=BC r m (l+1);have E:chN m l*r^l*r<=(r+1)^m*r:=Nat.mul_le_mul_right _ A;have B:chN (m+1) (l+1)*r^(l+1)=chN m l*r^l*r+chN m (l+1)*r^(l+1):=by simp only[chN];rw[Nat.add_mul,Nat.pow_succ,<-Nat.mul_assoc]
  have C:(r+1)^(m+1)=(r+1)^m*r+(r+1)^m:=by rw[Nat.pow_succ,Nat.mul_succ]
  omega
