/- Parts. -/
import Derived.Test.YtnpfliklhbkonaaGreatDoorZA3
set_option maxRecDepth 99999
set_option maxHeartbeats 0
set_option linter.unusedSimpArgs false
set_option linter.unusedVariables false
namespace Go.Proofs.YtnpfliklhbkonaaGreatDoor
section
def dK(O:aQ)(l:LL)(p:LI)(n c:Nat):Nat->LI
 |0=>(List.replicate n 0).set c 1
 |k+1=>(dK O l p n c k).set (pvt p k) (O.neg (ent l k c))
def rQ(p:LI)(c:Nat):Bool:=p.any fun x=>x==(c:Int)
def bT(O:aQ)(l:LL)(p:LI)(n:Nat):Nat->LL
 |0=>[]
 |c+1=>if rQ p c then bT O l p n c else bT O l p n c++[dK O l p n c p]
def iT(O:aQ)(rows:LL)(n:Nat):LL:=bC O (bT O (bC O rows n) (oS O rows n) n n) n
theorem iX(O:aQ)(l:LL)(p:LI)(n c:Nat):∀k,(dK O l p n c k).length=n
 |0=>by simp[dK]
 |k+1=>by rw[dK,aZ9,iX O l p n c k]
def kU(O:aQ)(q:Int)(rows:LL)(n:Nat)(x:Nat->Int):Prop:=
 (∀i,i<rows.length->aX O (fun j=>O.mul (ent rows i j) (x j)) n=0)/\(∀j,n<=j->x j=0)/\∀j,0<=x j/\x j<q
section
variable {O:aQ} {q:Int} (hO:O.Fld q)
include hO
theorem V8{rows:LL}{n:Nat}{x y:Nat->Int}(B:∀i,i<rows.length->aX O (fun j=>O.mul (ent rows i j) (x j)) n=0)(C:aZ O rows y):aX O (fun j=>O.mul (y j) (x j)) n=0:=by
 obtain⟨a,A⟩:=C;have e:∀j,O.mul (y j) (x j)=aX O (fun i=>O.mul (a i) (O.mul (ent rows i j) (x j))) rows.length:=fun j=>by rw[A j,uU hO];exact aO fun i _=>hO.mul_assoc _ _ _
 rw[aO fun j _=>e j,mE hO];refine bR hO fun i hi=>?_;rw[<-eY hO,B i hi,hO.mul_zero]
theorem kU.inside{A B:LL}{n:Nat}{x:Nat->Int}(h:kU O q B n x)(hI:cH O A B):kU O q A n x:=
 ⟨fun i hi=>V8 hO h.1 (hI i hi),h.2.1,h.2.2⟩
theorem kU.alike{A B:LL}{n:Nat}{x:Nat->Int}(h:fN O A B):kU O q A n x↔kU O q B n x:=
 ⟨fun k=>k.inside hO h.2,fun k=>k.inside hO h.1⟩
theorem kU.zero(A:LL)(n:Nat):kU O q A n fun _=>0:=
 ⟨fun i _=>bR hO fun j _=>hO.mul_zero _,fun _ _=>rfl,fun _=>⟨Int.le_refl 0,by have:=hO.lt.pos;show(0:Int)<q;omega⟩⟩
theorem kU.add{A:LL}{n:Nat}{x y:Nat->Int}(C:kU O q A n x)(D:kU O q A n y):kU O q A n fun j=>O.add (x j) (y j):=by
 refine⟨fun i hi=>?_,fun j B=>?_,fun j=>hO.lt.add _ _⟩
 .dsimp only;rw[aO (g:=fun j=>O.add (O.mul (ent A i j) (x j)) (O.mul (ent A i j) (y j))) fun j _=>hO.mul_add _ _ _,jJ hO,C.1 i hi,D.1 i hi,hO.zero_zero]
 .dsimp only;rw[C.2.1 j B,D.2.1 j B,hO.zero_zero]
theorem kU.smul{A:LL}{n:Nat}{x:Nat->Int}(c:Int)(B:kU O q A n x):kU O q A n fun j=>O.mul c (x j):=by
 refine⟨fun i hi=>?_,fun j C=>?_,fun j=>hO.lt.mul _ _⟩
 .dsimp only;rw[aO (g:=fun j=>O.mul c (O.mul (ent A i j) (x j))) fun j _=>by rw[<-hO.mul_assoc,hO.mul_comm _ c,hO.mul_assoc],<-eY hO,B.1 i hi,hO.mul_zero]
 .dsimp only;rw[B.2.1 j C,hO.mul_zero]
theorem kU.sum{A:LL}{n:Nat}{x:Nat->Nat->Int}:∀{m:Nat},(∀i,i<m->kU O q A n (x i))->kU O q A n fun j=>aX O (fun i=>x i j) m
 |0,_=>kU.zero hO A n
 |m+1,h=>(kU.sum fun i hi=>h i om).add hO (h m om)
theorem kU.span{A B:LL}{n:Nat}{x:Nat->Int}(h:∀i,i<B.length->kU O q A n (ent B i))(E:aZ O B x):kU O q A n x:=by obtain⟨a,D⟩:=E;have C:=kU.sum hO (x:=fun i j=>O.mul (a i) (ent B i j)) fun i hi=>(h i hi).smul hO (a i);have e:x=fun j=>aX O (fun i=>O.mul (a i) (ent B i j)) B.length:=funext D;rw[e];exact C
section
variable {n:Nat} {A:LL} {p:LI} (hA:gT O q n A p)
include hA
omit hO in
theorem iY(c:Nat):rQ p c=true↔∃i,i<A.length/\pvt p i=c:=by
 unfold rQ;rw[List.any_eq_true];constructor
 .rintro⟨x,C,e⟩;rw[eD] at e;obtain⟨i,hi,rfl⟩:=eI.1 C;refine⟨i,by rw[<-hA.len];exact hi,?_⟩;unfold pvt;simp[List.getD,hi,e]
 .rintro⟨i,hi,e⟩;have B:i<p:=by rw[hA.len];exact hi
  refine⟨p[i],aY6 B,?_⟩;have:=hA.nn i hi;rw[eD,<-e,<-this];simp[List.getD,B]
omit hO in
theorem IQ{i k:Nat}(hi:i<A)(hk:k<A)(e:pvt p i=pvt p k):i=k:=by
 rcases Nat.lt_trichotomy i k with h|h|h
 .have:=hA.inc i k h hk;omega
 .exact h
 .have:=hA.inc k i h hi;omega
omit hO in
theorem rM{c:Nat}:∀{k:Nat},k<=A.length->∀i,i<k->(dK O A p n c k).getD (pvt p i) 0=O.neg (ent A i c)
 |0,_,i,hi=>om
 |k+1,hk,i,hi=>by
  have B:=iX O A p n c k;rw[dK];by_cases e:i=k
  .subst e;have:=hA.lt i om;simp[List.getD,List.getElem?_set,B,this]
  .have C:¬pvt p k=pvt p i:=fun h=>e (IQ hA om om h.symm);have:((dK O A p n c k).set (pvt p k) (O.neg (ent A k c))).getD (pvt p i) 0=(dK O A p n c k).getD (pvt p i) 0:=by
    simp[List.getD,List.getElem?_set,C]
   rw[this];exact rM om i om
omit hO hA in
theorem iW{c j:Nat}:∀{k:Nat},(∀i,i<k->pvt p i≠j)->(dK O A p n c k).getD j 0=if c=j/\j<n then 1 else 0
 |0,_=>by
  rw[dK];by_cases h:c=j/\j<n
  .rw[iP h];obtain⟨B,C⟩:=h;subst B;simp[List.getD,List.getElem?_set,C]
  .rw[iN h];by_cases B:c=j
   .have C:¬j<n:=fun C=>h ⟨B,C⟩;exact bG (by simp;omega)
   .simp[List.getD,List.getElem?_set,B,List.getElem?_replicate];split<;>rfl
 |k+1,h=>by
  rw[dK];have D:¬pvt p k=j:=h k om;have:((dK O A p n c k).set (pvt p k) (O.neg (ent A k c))).getD j 0=(dK O A p n c k).getD j 0:=by simp[List.getD,List.getElem?_set,D]
  rw[this];exact iW fun i hi=>h i om
theorem vY(c j:Nat):0<=(dK O A p n c A).getD j 0/\(dK O A p n c A).getD j 0<q:=by
 have hq:=hO.lt.pos;by_cases h:rQ p j=true
 .obtain⟨i,hi,e⟩:=(iY hA j).1 h;rw[<-e,rM hA zr i hi];exact hO.neg_lt _
 .have B:∀i,i<A.length->pvt p i≠j:=fun i hi e=>h ((iY hA j).2 ⟨i,hi,e⟩);rw[iW B];split<;>omega
theorem RT{c:Nat}(G:c<n)(I:rQ p c=false):kU O q A n fun j=>(dK O A p n c A).getD j 0:=by
 have hq:=hO.lt.pos;have H:∀i,i<A.length->pvt p i≠c:=fun i hi e=>by have:=(iY hA c).2 ⟨i,hi,e⟩;rw[I] at this;cases this
 refine⟨fun i hi=>?_,fun j F=>bG (by rw[iX];exact F),fun j=>vY hO hA c j⟩;have J:=hA.lt i hi;have e:∀j,j<n->O.mul (ent A i j) ((dK O A p n c A).getD j 0)=O.add (if j=pvt p i then O.neg (ent A i c) else 0) (if j=c then ent A i c else 0):=fun j F=>by
  have C:=hA.r hO i c;by_cases h:rQ p j=true
  .obtain⟨k,hk,rfl⟩:=(iY hA j).1 h;rw[rM hA zr k hk,iN (H k hk)];by_cases E:k=i
   .subst E;rw[iP rfl,hA.one k hk,hO.one_mul (hO.neg_lt _).1 (hO.neg_lt _).2,hO.add_zero _ (hO.neg_lt _).1 (hO.neg_lt _).2]
   .rw[iN (fun e=>E (IQ hA hk hi e)),hA.off k hk i (fun e=>E e.symm),hO.zero_mul,hO.zero_zero]
  .have B:∀i,i<A.length->pvt p i≠j:=fun i hi e=>h ((iY hA j).2 ⟨i,hi,e⟩);rw[iN (show ¬j=pvt p i from fun e=>B i hi e.symm),iW B];by_cases D:j=c
   .subst D;rw[iP ⟨rfl,F⟩,iP rfl,hO.mul_one _ C.1 C.2,hO.zero_add C.1 C.2]
   .rw[iN (show ¬(c=j/\j<n) from fun e=>D e.1.symm),iN D,hO.mul_zero,hO.zero_zero]
 rw[aO e,jJ hO,cO hO (k:=pvt p i) (by rw[iP rfl];exact hO.neg_lt _) J (fun j _ B=>iN B),cO hO (k:=c) (by rw[iP rfl];exact hA.r hO i c) G (fun j _ B=>iN B)];rw[iP rfl,iP rfl,hO.neg_add]
omit hO in
theorem mU:∀c,c<=n->∀i,i<(bT O A p n c).length->∃d,d<c/\rQ p d=false/\(bT O A p n c).getD i []=dK O A p n d A
 |0,_,i,hi=>aB hi (by simp[bT])
 |c+1,hc,i,hi=>by
  rw[bT] at hi|-;by_cases h:rQ p c=true
  .rw[iP h] at hi|-;obtain⟨d,D,B,C⟩:=mU c om i hi;exact⟨d,om,B,C⟩
  .rw[iN h] at hi|-;rw[aZ1,aZ2] at hi;by_cases e:i<(bT O A p n c).length
   .obtain⟨d,D,B,C⟩:=mU c om i e;refine⟨d,om,B,?_⟩;rw[<-C];simp[List.getD,aY2 e]
   .obtain rfl:i=(bT O A p n c).length:=om;refine⟨c,om,by cases hh:rQ p c;rfl;exact aB hh h,?_⟩;rw[hA.len];simp[List.getD]
theorem pH:Rows q n (bT O A p n n):=fun k hk=>by obtain⟨d,_,_,h⟩:=mU hA n zr k hk;rw[h];exact⟨iX O A p n d _,fun i=>vY hO hA d i⟩
omit hO hA in
theorem nJ{l:LL}{r:LI}{i:Nat}(h:i<l)(j:Nat):ent (l++[r]) i j=ent l i j:=by unfold ent;simp[List.getD,aY2 h]
omit hO hA in
theorem lD{l:LL}{r:LI}(j:Nat):ent (l++[r]) l j=r j 0:=by unfold ent;simp[List.getD]
omit hO hA in
theorem aZ.snoc{l:LL}{r:LI}{x:Nat->Int}(c:Int)(B:aZ O l x):aZ O (l++[r]) fun j=>O.add (x j) (O.mul c (r j 0)):=by obtain⟨a,A⟩:=B;refine⟨fun i=>if i<l then a i else c,fun j=>?_⟩;dsimp only;rw[aZ1,aZ2,aX,lD,iN (Nat.lt_irrefl _),A j];congr 1;refine aO fun i hi=>?_;rw[nJ hi,iP hi]
theorem FB(x:Nat->Int):∀c,aZ O (bT O A p n c) fun j=>aX O (fun d=>if rQ p d then 0 else O.mul (x d) ((dK O A p n d A).getD j 0)) c
 |0=>aZ.zero hO _
 |c+1=>by
  have B:=FB x c;rw[bT];by_cases h:rQ p c=true
  .rw[iP h];refine B.congr fun j=>?_;rw[aX,iP h,hO.add_zero _ (dS hO _ _).1 (dS hO _ _).2]
  .rw[iN h];refine(B.snoc (x c) (r:=dK O A p n c p)).congr fun j=>?_;rw[aX,iN h,hA.len]
theorem SZ{x:Nat->Int}(B:kU O q A n x):aZ O (bT O A p n n) x:=by
 refine(FB hO hA x n).congr fun j=>?_;by_cases F:j<n
 .by_cases h:rQ p j=true
  .obtain⟨k,hk,rfl⟩:=(iY hA j).1 h;have H:=B.1 k hk;have e:∀d,d<n->O.mul (ent A k d) (x d)=O.add (if d=pvt p k then x (pvt p k) else 0) (if rQ p d then 0 else O.mul (ent A k d) (x d)):=fun d J=>by
    by_cases C:rQ p d=true
    .rw[iP C];obtain⟨i,hi,rfl⟩:=(iY hA d).1 C;by_cases E:i=k
     .subst E;rw[iP rfl,hA.one i hi,hO.one_mul (B.2.2 _).1 (B.2.2 _).2,hO.add_zero _ (B.2.2 _).1 (B.2.2 _).2]
     .rw[iN (fun e=>E (IQ hA hi hk e)),hA.off i hi k (fun e=>E e.symm),hO.zero_mul,hO.zero_zero]
    .have:d≠pvt p k:=fun e=>C (e▸h);rw[iN C,iN this,hO.zero_add (hO.lt.mul _ _).1 (hO.lt.mul _ _).2]
   rw[aO e,jJ hO,cO hO (k:=pvt p k) (by rw[iP rfl];exact B.2.2 _) F (fun i _ D=>iN D),iP rfl,hO.add_comm] at H;have I:=hO.neg_unique (B.2.2 _) H;rw[I,GE hO];refine aO fun d J=>?_;by_cases C:rQ p d=true
   .rw[iP C,iP C,hO.neg_zero]
   .rw[iN C,iN C,rM hA zr k hk,hO.mul_comm (x d),hO.neg_mul]
  .have D:∀i,i<A.length->pvt p i≠j:=fun i hi e=>h ((iY hA j).2 ⟨i,hi,e⟩);have G:(if rQ p j=true then(0:Int) else O.mul (x j) ((dK O A p n j A).getD j 0))=x j:=by
    rw[iN h,iW D,iP ⟨rfl,F⟩,hO.mul_one _ (B.2.2 _).1 (B.2.2 _).2]
   rw[cO hO (k:=j) (by rw[G];exact B.2.2 _) F (fun d _ K=>by rw[iW D,iN (show ¬(d=j/\j<n) from fun e=>K e.1),hO.mul_zero,ite_self]),G]
 .rw[B.2.1 j om];exact(bR hO fun d _=>by rw[bG (by rw[iX];omega),hO.mul_zero,ite_self]).symm
theorem WH{x:Nat->Int}:aZ O (bT O A p n n) x↔kU O q A n x:=
 ⟨kU.span hO fun i hi=>by
  obtain⟨d,B,C,D⟩:=mU hA n zr i hi;have e:ent (bT O A p n n) i=fun j=>(dK O A p n d A).getD j 0:=by funext j;unfold ent;rw[D]
  rw[e];exact RT hO hA B C,SZ hO hA⟩
end
theorem FU{n:Nat}{rows:LL}(h:Rows q n rows):gT O q n (iT O rows n) (oS O (bT O (bC O rows n) (oS O rows n) n n) n):=by obtain⟨hA,_⟩:=cI hO h;exact(cI hO (pH hO hA)).1
theorem SW{n:Nat}{rows:LL}(h:Rows q n rows)(x:Nat->Int):aZ O (iT O rows n) x↔kU O q rows n x:=by obtain⟨hA,A⟩:=cI hO h;obtain⟨_,B⟩:=cI hO (pH hO hA);rw[show aZ O (iT O rows n) x↔aZ O (bT O (bC O rows n) (oS O rows n) n n) x from B.span hO x,WH hO hA,kU.alike hO A]
end
def wV(O:aQ)(q:Int)(A:Nat->Nat->Int)(m:Nat):Prop:=
 ∀c:Nat->Int,(∀i,0<=c i/\c i<q)->(∀j,aX O (fun i=>O.mul (c i) (A i j)) m=0)->∀i,i<m->c i=0
section
variable {O:aQ} {q:Int} (hO:O.Fld q)
include hO
theorem wS(f:Nat->Int)(C:∀i,0<=f i/\f i<q):∀{m k:Nat},k<m+1->aX O f (m+1)=O.add (aX O (fun i=>f (if i<k then i else i+1)) m) (f k)
 |m,k,hk=>by
  by_cases e:k=m
  .subst e;rw[aX];congr 1;exact aO fun i hi=>by rw[iP hi]
  .obtain⟨A,rfl⟩:∃A,m=A+1:=⟨m-1,om⟩
   rw[aX,wS f C (m:=A) (k:=k) om,aX];have B:(if A<k then A else A+1)=A+1:=iN om;rw[B,hO.add_assoc,hO.add_comm (f k),<-hO.add_assoc]
theorem tO:∀(k m:Nat) (B b a:Nat->Nat->Int),(∀i l,0<=a i l/\a i l<q)->(∀i j,i<m->B i j=aX O (fun l=>O.mul (a i l) (b l j)) k)->wV O q B m->m<=k
 |0,m,B,b,a,_,hw,hI=>by
  refine eJ fun V=>?_;have hq:=hO.lt.pos;have E:=hI (fun i=>if i=0 then 1 else 0) (fun i=>by split<;>omega) (fun j=>bR hO fun i hi=>by rw[hw i j hi];exact hO.mul_zero _) 0 om;rw[iP rfl] at E;cases E
 |k+1,m,B,b,a,ha,hw,hI=>by
  by_cases K:∀i,i<m->a i k=0
  .have:=tO k m B b a ha (fun i j hi=>by rw[hw i j hi,aX,K i hi,hO.zero_mul,hO.add_zero _ (dS hO _ _).1 (dS hO _ _).2]) hI;omega
  .obtain⟨A,H,W⟩:∃A,A<m/\a A k≠0:=by
    refine eJ fun h=>K fun i hi=>eJ fun M=>h ⟨i,hi,M⟩
   obtain⟨C,rfl⟩:∃C,m=C+1:=⟨m-1,om⟩
   have S:=ha A k;have R:=hO.mul_inv (a A k) om S.2
   --what is taken of word A away from the others
   obtain⟨d,F⟩:=xE (fun i=>O.neg (O.mul (a (if i<A then i else i+1) k) (O.inv (a A k))):Nat->Int);have U:∀i,0<=d i/\d i<q:=fun i=>by rw[F];exact hO.neg_lt _
   have P:∀i,O.add (a (if i<A then i else i+1) k) (O.mul (d i) (a A k))=0:=fun i=>by rw[F];dsimp only;rw[hO.neg_mul,hO.mul_assoc,hO.mul_comm (O.inv _),R,hO.mul_one _ (ha _ _).1 (ha _ _).2,hO.add_neg]
   have I:∀i,i<C->(if i<A then i else i+1)<C+1:=fun i hi=>by split<;>omega
   have X:∀i j,i<C+1->0<=B i j/\B i j<q:=fun i j hi=>by rw[hw i j hi];exact dS hO _ _
   have:=tO k C (fun i j=>O.add (B (if i<A then i else i+1) j) (O.mul (d i) (B A j))) b (fun i l=>O.add (a (if i<A then i else i+1) l) (O.mul (d i) (a A l)))
    (fun i l=>hO.lt.add _ _) (fun i j hi=>by
     rw[hw _ j (I i hi),hw A j H,eY hO,<-jJ hO,aX];have J:∀l,O.add (O.mul (a (if i<A then i else i+1) l) (b l j)) (O.mul (d i) (O.mul (a A l) (b l j)))=O.mul (O.add (a (if i<A then i else i+1) l) (O.mul (d i) (a A l))) (b l j):=fun l=>by rw[<-hO.mul_assoc,<-hO.add_mul]
     rw[J k,P i,hO.zero_mul,hO.add_zero _ (dS hO _ _).1 (dS hO _ _).2];exact aO fun l _=>J l)
    (fun c N T i hi=>by
     --the combination,said of the words themselves
     obtain⟨e,D⟩:=xE (fun i=>if i=A then aX O (fun i=>O.mul (c i) (d i)) C else c (if i<A then i else i-1):Nat->Int);have Q:∀i,0<=e i/\e i<q:=fun i=>by
      rw[D];dsimp only;split
      .exact dS hO _ _
      .exact N _
     have G:∀i,e (if i<A then i else i+1)=c i:=fun i=>by
      rw[D];dsimp only;by_cases h:i<A
      .rw[iP h,iN om,iP h]
      .rw[iN h,iN om,iN om,Nat.add_sub_cancel]
     have hrel:∀j,aX O (fun i=>O.mul (e i) (B i j)) (C+1)=0:=fun j=>by
      rw[wS hO (fun i=>O.mul (e i) (B i j)) (fun i=>hO.lt.mul _ _) H];have L:e A=aX O (fun i=>O.mul (c i) (d i)) C:=by rw[D];exact iP rfl
      rw[L,uU hO,<-jJ hO,<-T j];refine aO fun i hi=>?_;rw[G,hO.mul_add,hO.mul_assoc]
     have:=hI e Q hrel (if i<A then i else i+1) (I i hi);rw[G] at this;exact this)
   omega
theorem rZ{n:Nat}{A:LL}{p:LI}(hA:gT O q n A p):wV O q (ent A) A.length:=fun c B C i hi=>by have h:=C (pvt p i);rwa[hA.coef hO hi (B i)] at h
theorem rP{B:LL}{C:Nat->Nat->Int}{m:Nat}(hI:wV O q C m)(h:∀i,i<m->aZ O B (C i)):m<=B:=by
 obtain⟨a,A⟩:∃a:Nat->Nat->Int,∀i,i<m->∀j,C i j=aX O (fun l=>O.mul (a i l) (ent B l j)) B.length:=by
  have G:∀i,∃a:Nat->Int,i<m->∀j,C i j=aX O (fun l=>O.mul (a l) (ent B l j)) B.length:=fun i=>by
   by_cases hi:i<m
   .obtain⟨a,A⟩:=h i hi;exact⟨a,fun _=>A⟩
   .exact⟨fun _=>0,fun h=>aB h hi⟩
  obtain⟨a,A⟩:=Classical.axiomOfChoice G;exact⟨a,A⟩
 by_cases D:jS q B
 .refine tO hO B m C (fun l j=>ent B l j) (fun i l=>O.mul (a i l) 1) (fun i l=>hO.lt.mul _ _) (fun i j hi=>?_) hI;rw[A i hi j];exact aO fun l _=>by rw[hO.mul_assoc,hO.one_mul (D l j).1 (D l j).2]
 .refine tO hO B m C (fun l j=>O.mul 1 (ent B l j)) (fun i l=>O.mul (a i l) 1) (fun i l=>hO.lt.mul _ _) (fun i j hi=>?_) hI;rw[A i hi j];refine aO fun l _=>?_;have E:O.mul 1 1=1:=hO.mul_one 1 om (oA hO.lt.pos);rw[hO.mul_assoc,<-hO.mul_assoc 1 1,E]
  --a factor counts only as an element
  have F:O.mul (a i l) (ent B l j)=O.mul (O.mul (a i l) (ent B l j)) 1:=(hO.mul_one _ (hO.lt.mul _ _).1 (hO.lt.mul _ _).2).symm;rw[F,hO.mul_assoc,hO.mul_comm (ent B l j)]
theorem CQ{n:Nat}{A:LL}{p:LI}(hA:gT O q n A p):∀c,c<=n->wV O q (ent (bT O A p n c)) (bT O A p n c).length
 |0,_=>fun _ _ _ i hi=>aB hi (by simp[bT])
 |c+1,hc=>by
  have H:=CQ hA c om;by_cases C:rQ p c=true
  .rw[bT,iP C];exact H
  .rw[bT,iN C];intro E B D i hi;rw[aZ1,aZ2] at hi D;have G:∀i,i<A.length->pvt p i≠c:=fun i hi e=>C ((iY hA c).2 ⟨i,hi,e⟩);have F:E (bT O A p n c).length=0:=by
    have h:=D c;rw[aX,lD,hA.len,iW G,iP ⟨rfl,om⟩,hO.mul_one _ (B _).1 (B _).2,bR hO (fun i hi=>?_),hO.zero_add (B _).1 (B _).2] at h
    .exact h
    .rw[nJ hi];obtain⟨d,J,K,I⟩:=mU hA c om i hi;unfold ent;rw[I,iW G,iN (fun e=>om),hO.mul_zero]
   by_cases e:i=(bT O A p n c).length
   .rw[e];exact F
   .refine H E B (fun j=>?_) i om;have h:=D j;rw[aX,F,hO.zero_mul,hO.add_zero _ (dS hO _ _).1 (dS hO _ _).2] at h;rw[<-h];exact aO fun i hi=>by rw[nJ hi]
omit hO in
theorem yP{n:Nat}{A:LL}{p:LI}(hA:gT O q n A p):∀c,c<=n->∃k,k<=A.length/\(∀i,i<k->pvt p i<c)/\(∀i,k<=i->i<A.length->c<=pvt p i)/\(bT O A p n c).length+k=c
 |0,_=>⟨0,aZ5 _,fun i hi=>aB hi (aY5 _),fun _ _ _=>aZ5 _,rfl⟩
 |c+1,hc=>by
  obtain⟨k,H,E,F,L⟩:=yP hA c om;by_cases D:rQ p c=true
  .rw[bT,iP D];obtain⟨i,hi,e⟩:=(iY hA c).1 D;have K:i=k:=by
    rcases Nat.lt_trichotomy i k with h|h|h
    .have:=E i h;omega
    .exact h
    .have I:=hA.inc k i h hi;have J:=F k zr om;omega
   subst K;refine⟨i+1,om,fun j B=>?_,fun j B C=>?_,om⟩
   .by_cases G:j=i
    .rw[G];omega
    .have:=E j om;omega
   .have:=hA.inc i j om C;omega
  .rw[bT,iN D,aZ1,aZ2];refine⟨k,H,fun j B=>oA (E j B),fun j B C=>?_,om⟩;have I:=F j B C;have J:pvt p j≠c:=fun e=>D ((iY hA c).2 ⟨j,C,e⟩);omega
theorem XS{n:Nat}{rows:LL}(h:Rows q n rows):(iT O rows n).length+(bC O rows n).length=n:=by
 obtain⟨hA,_⟩:=cI hO h;obtain⟨B,A⟩:=cI hO (pH hO hA);obtain⟨k,H,I,D,J⟩:=yP hA n zr;have hk:k=(bC O rows n).length:=by refine eJ fun G=>?_;have E:=D k zr om;have F:=hA.lt k om;omega
 have C:gT O q n (iT O rows n) (oS O (bT O (bC O rows n) (oS O rows n) n n) n):=B;have K:(iT O rows n).length<=(bT O (bC O rows n) (oS O rows n) n n).length:=rP hO (rZ hO C) fun i hi=>A.1 i hi;have L:(bT O (bC O rows n) (oS O rows n) n n).length<=(iT O rows n).length:=rP hO (CQ hO hA n zr) fun i hi=>A.2 i hi;omega
end
theorem nI{A B:LL}{i:Nat}(h:i<A)(j:Nat):ent (A++B) i j=ent A i j:=by unfold ent;simp[List.getD,aY2 h]
theorem vH{A B:LL}(i j:Nat):ent (A++B) (A.length+i) j=ent B i j:=by unfold ent;simp[List.getD,eL (Nat.le_add_right A i)]
theorem Rows.app{q:Int}{n:Nat}{A B:LL}(hA:Rows q n A)(hB:Rows q n B):Rows q n (A++B):=fun k hk=>by
 rw[aZ1] at hk;by_cases h:k<A
 .have:(A++B).getD k []=A k []:=by simp[List.getD,aY2 h]
  rw[this];exact hA k h
 .have:(A++B).getD k []=B (k-A.length) []:=by simp[List.getD,eL (show A<=k from om)]
  rw[this];exact hB _ om
section
variable {O:aQ} {q:Int} (hO:O.Fld q)
include hO
theorem uD(f:Nat->Int)(a:Nat):∀b,aX O f (a+b)=O.add (aX O f a) (aX O (fun i=>f (a+i)) b)
 |0=>(hO.add_zero _ (dS hO _ _).1 (dS hO _ _).2).symm
 |b+1=>by rw[<-Nat.add_assoc,aX,uD f a b,aX,hO.add_assoc]
theorem qV{A B:LL}(x:Nat->Int):aZ O (A++B) x↔∃y z,aZ O A y/\aZ O B z/\∀j,x j=O.add (y j) (z j):=by
 constructor
 .rintro⟨a,C⟩;refine⟨_,_,⟨a,fun j=>rfl⟩,⟨fun i=>a (A.length+i),fun j=>rfl⟩,fun j=>?_⟩;rw[C j,aZ1,uD hO];congr 1
  .exact aO fun i hi=>by rw[nI hi]
  .exact aO fun i _=>by rw[vH]
 .rintro⟨y,z,⟨a,C⟩,⟨b,D⟩,h⟩;refine⟨fun i=>if i<A then a i else b (i-A.length),fun j=>?_⟩;rw[h j,C j,D j,aZ1,uD hO];congr 1
  .exact aO fun i hi=>by dsimp only;rw[iP hi,nI hi]
  .exact aO fun i _=>by dsimp only;rw[iN (show ¬A.length+i<A.length from om),vH,Nat.add_sub_cancel_left]
end
section
variable {O:aQ} {q:Int} (hO:O.Fld q)
include hO
theorem uC{A:LL}(B:jS q A){x:Nat->Int}(h:aZ O A x):∃a:Nat->Int,(∀i,0<=a i/\a i<q)/\∀j,x j=aX O (fun i=>O.mul (a i) (ent A i j)) A.length:=by obtain⟨a,C⟩:=h;refine⟨fun i=>O.mul (a i) 1,fun i=>hO.lt.mul _ _,fun j=>?_⟩;rw[C j];exact aO fun i _=>by rw[hO.mul_assoc,hO.one_mul (B i j).1 (B i j).2]
end
structure Bas(q:Int)(m:Nat)(R:LL)(pl:LI):Prop where
 rows:Rows q m R
 len:pl.length=R.length
 lt:∀i,i<R.length->0<=pl i 0/\pvt pl i<m
 one:∀i,i<R.length->ent R i (pvt pl i)=1
 low:∀i,i<R.length->∀j,j<i->ent R i (pvt pl j)=0
def cF(O:aQ)(R:LL)(pl:LI)(v:Nat->Int):Nat->Nat->Int
 |0=>v
 |i+1=>fun j=>O.add (cF O R pl v i j) (O.neg (O.mul (cF O R pl v i (pvt pl i)) (ent R i j)))
theorem Bas.nil(q:Int)(m:Nat):Bas q m [] []:=⟨fun k hk=>aB hk (aY5 _),rfl,fun i hi=>aB hi (aY5 _),fun i hi=>aB hi (aY5 _),fun i hi=>aB hi (aY5 _)⟩
section
variable {O:aQ} {q:Int} (hO:O.Fld q) {m:Nat} {R:LL} {pl:LI}
include hO
theorem N0{n:Nat}{gen:LL}(hA:Rows q n gen){x:Nat->Int}(C:aZ O gen x){j:Nat}(B:n<=j):x j=0:=by obtain⟨a,A⟩:=C;rw[A];exact bR hO fun i _=>by rw[tJ hA B,hO.mul_zero]
theorem jV{v:Nat->Int}(A:∀j,0<=v j/\v j<q):∀i j,0<=cF O R pl v i j/\cF O R pl v i j<q
 |0,j=>A j
 |i+1,j=>hO.lt.add _ _
theorem zU(hB:Bas q m R pl){v:Nat->Int}(B:∀j,0<=v j/\v j<q):∀i,i<=R.length->∀j,j<i->cF O R pl v i (pvt pl j)=0
 |0,_,j,h=>aB h (aY5 _)
 |i+1,hi,j,h=>by
  have A:=jV hO (R:=R) (pl:=pl) B i;simp only[cF];by_cases e:j=i
  .subst e;rw[hB.one j om,hO.mul_one _ (A _).1 (A _).2,hO.add_neg]
  .rw[zU hB B i om j om,hB.low i om j om,hO.mul_zero,hO.neg_zero,hO.zero_zero]
theorem zS(hB:Bas q m R pl){v:Nat->Int}(A:∀j,0<=v j/\v j<q):∀i,i<=R.length->∃y,aZ O R y/\∀j,cF O R pl v i j=O.add (v j) (y j)
 |0,_=>⟨_,aZ.zero hO R,fun j=>(hO.add_zero _ (A j).1 (A j).2).symm⟩
 |i+1,hi=>by
  have hq:0<q:=by have:=hO.lt.pos;omega
  obtain⟨y,D,B⟩:=zS hB A i om;have C:aZ O R (ent R i):=aZ.row hO om (hB.rows.r hq i);refine⟨_,aZ.add hO D (aZ.smul hO (O.neg (cF O R pl v i (pvt pl i))) C),fun j=>?_⟩;simp only[cF];rw[B j,hO.neg_mul,hO.add_assoc]
theorem VI(hB:Bas q m R pl){y:Nat->Int}(E:aZ O R y)(F:∀i,i<R.length->y (pvt pl i)=0):∀j,y j=0:=by
 have hq:0<q:=by have:=hO.lt.pos;omega
 obtain⟨a,C,B⟩:=uC hO (hB.rows.r hq) E;have D:∀i,i<R.length->a i=0:=fun i=>by
  induction i using Nat.strongRecOn with
  |ind i ih=>
   intro hi;have h:=B (pvt pl i);rw[F i hi,cO hO (k:=i) (hO.lt.mul _ _) hi fun k hk G=>by
    rcases Nat.lt_or_ge k i with A|A
    .rw[ih k A hk,hO.zero_mul]
    .rw[hB.low k hk i om,hO.mul_zero],hB.one i hi,hO.mul_one _ (C i).1 (C i).2] at h
   exact h.symm
 exact fun j=>(B j).trans (bR hO fun i hi=>by rw[D i hi,hO.zero_mul])
theorem DT(hB:Bas q m R pl){v:Nat->Int}(A:∀j,0<=v j/\v j<q):(∀j,cF O R pl v R j=0)↔aZ O R v:=by
 obtain⟨y,B,C⟩:=zS hO hB A R zr;constructor
 .intro F;refine(aZ.smul hO (O.neg 1) B).congr fun j=>?_;have h:=(C j).symm.trans (F j);have D:=B.lt hO j;rw[hO.neg_mul,hO.one_mul D.1 D.2];rw[hO.add_comm] at h;exact hO.neg_unique (A j) h
 .intro E;exact VI hO hB ((aZ.add hO E B).congr C) fun i hi=>zU hO hB A _ zr i hi
theorem Bas.snoc(hB:Bas q m R pl){v:Nat->Int}(H:∀j,0<=v j/\v j<q){k:Nat}(hk:k<m)(d:cF O R pl v R k≠0){r:LI}(Q:r=m)
 (T:∀j,j<m->r j 0=O.mul (O.inv (cF O R pl v R k)) (cF O R pl v R j))(X:∀j,m<=j->v j=0):
 Bas q m (R++[r]) (pl++[(k:Int)])/\∀x,aZ O (R++[r]) x↔∃y c,aZ O R y/\(0<=c/\c<q)/\∀j,x j=O.add (y j) (O.mul c (v j)):=by
 have hq:0<q:=by have:=hO.lt.pos;omega
 have D:=jV hO (R:=R) (pl:=pl) H R;have K:0<cF O R pl v R k:=by have:=(D k).1;omega
 have S:∀j,m<=j->r j 0=0:=fun j A=>by simp[List.getD,aY4 (show r<=j from om)]
 obtain⟨M,F,G⟩:=zS hO hB H R zr;have V:∀j,m<=j->cF O R pl v R j=0:=fun j A=>by rw[G j,X j A,N0 hO hB.rows F A,hO.zero_zero]
 have B:∀j,r j 0=O.mul (O.inv (cF O R pl v R k)) (cF O R pl v R j):=fun j=>by
  by_cases A:j<m
  .exact T j A
  .rw[S j om,V j om,hO.mul_zero]
 have E:∀i,i<R.length->pvt (pl++[(k:Int)]) i=pvt pl i:=fun i hi=>by rw[lJ,iP (by rw[hB.len];exact hi)]
 have L:pvt (pl++[(k:Int)]) R=k:=by rw[lJ,iN (by rw[hB.len];omega),iP hB.len.symm]
 refine⟨⟨hB.rows.app fun i hi=>?_,by simp[hB.len],fun i hi=>?_,fun i hi=>?_,fun i hi j A=>?_⟩,fun x=>?_⟩
 .obtain rfl:i=0:=by simp at hi;exact hi
  refine⟨Q,fun j=>?_⟩;show 0<=r j 0/\r j 0<q;rw[B];exact hO.lt.mul _ _
 .rw[aZ1,aZ2] at hi;by_cases e:i<R
  .refine⟨?_,by rw[E i e];exact(hB.lt i e).2⟩;have N:=(hB.lt i e).1;rw[aZ4,aY2 (by rw[hB.len];exact e),<-aZ4];exact N
  .obtain rfl:i=R:=om;refine⟨?_,by rw[L];exact hk⟩;rw[aZ4,eL (by rw[hB.len];omega),hB.len,Nat.sub_self];simp
 .rw[aZ1,aZ2] at hi;by_cases e:i<R
  .rw[E i e,nI e];exact hB.one i e
  .obtain rfl:i=R:=om;rw[L,lD,B,hO.mul_comm];exact hO.mul_inv _ K (D k).2
 .rw[aZ1,aZ2] at hi;by_cases e:i<R
  .rw[E j om,nI e];exact hB.low i e j A
  .obtain rfl:i=R:=om;rw[E j A,lD,B,zU hO hB H _ zr j A,hO.mul_zero]
 .
  let u:=O.inv (cF O R pl v R k)
  have g:0<=u/\u<q:=hO.inv_lt _;have W:O.mul (cF O R pl v R k) u=1:=hO.mul_inv _ K (D k).2;constructor
  .intro I;obtain⟨y,z,J,Z,Y⟩:=(qV hO _).1 I;obtain⟨b,P⟩:=Z;have a:∀j,z j=O.mul (O.mul (b 0) 1) (r j 0):=fun j=>by
    rw[P j];have C:=hO.lt.mul (b 0) (r j 0);show O.add 0 (O.mul (b 0) (r j 0))=_;rw[hO.zero_add C.1 C.2,hO.mul_assoc,hO.one_mul (by rw[B];exact(hO.lt.mul _ _).1) (by rw[B];exact(hO.lt.mul _ _).2)]
   refine⟨_,O.mul (O.mul (b 0) 1) u,aZ.add hO J (aZ.smul hO (O.mul (O.mul (b 0) 1) u) F),hO.lt.mul _ _,fun j=>?_⟩;rw[Y j,a j,B j,G j,<-hO.mul_assoc,hO.mul_add,hO.add_comm (O.mul _ (v j)),<-hO.add_assoc]
  .rintro⟨y,c,J,f,I⟩
   --c v=c red-c M,red=(red k) r
   refine(aZ.snoc (r:=r) (O.mul c (cF O R pl v R k)) (aZ.add hO J (aZ.smul hO (O.neg c) F))).congr fun j=>?_;have h:=F.lt hO j;have U:O.mul (cF O R pl v R k) (r j 0)=O.add (v j) (M j):=by rw[B j,<-hO.mul_assoc,W,hO.one_mul (D j).1 (D j).2,G j]
   rw[I j,hO.mul_assoc,U,hO.mul_add,hO.neg_mul,hO.add_assoc];congr 1;have C:=hO.lt.mul c (v j);rw[hO.add_comm (O.mul c (v j)),<-hO.add_assoc,hO.neg_add,hO.zero_add C.1 C.2]
end
