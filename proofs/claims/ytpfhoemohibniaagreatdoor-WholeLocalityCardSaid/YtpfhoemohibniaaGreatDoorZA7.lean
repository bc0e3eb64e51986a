/- Texts of a claim, merged. -/
import Derived.Test.YtpfhoemohibniaaGreatDoorZA3
set_option maxRecDepth 100000
set_option linter.unusedSimpArgs false
set_option maxHeartbeats 32000000
namespace Go.Proofs.YtpfhoemohibniaaGreatDoor
def bZ(O:aO)(l:LL)(p:LI)(n c:Nat):Nat->LI
 |0=>(List.replicate n 0).set c 1
 |k+1=>(bZ O l p n c k).set (pvt p k) (O.neg (ent l k c))
def mQ(p:LI)(c:Nat):Bool:=p.any fun x=>x==(c:Int)
def bQ(O:aO)(l:LL)(p:LI)(n:Nat):Nat->LL
 |0=>[]
 |c+1=>if mQ p c then bQ O l p n c else bQ O l p n c++[bZ O l p n c p.length]
def cA(O:aO)(rows:LL)(n:Nat):LL:=bC O (bQ O (bC O rows n) (jX O rows n) n n) n
theorem fY(O:aO)(l:LL)(p:LI)(n c:Nat):∀k,(bZ O l p n c k).length=n
 |0=>by simp[bZ]
 |k+1=>by rw[bZ,aZ9,fY O l p n c k]
def dC(O:aO)(q:Int)(rows:LL)(n:Nat)(x:Nat->Int):Prop:=
 (∀i,i<rows.length->aR O (fun j=>O.mul (ent rows i j) (x j)) n=0)/\(∀j,n<=j->x j=0)/\∀j,0<=x j/\x j<q
section
variable {O:aO} {q:Int} (hO:O.Fld q)
include hO
theorem nX{rows:LL}{n:Nat}{x y:Nat->Int}(B:∀i,i<rows.length->aR O (fun j=>O.mul (ent rows i j) (x j)) n=0)(C:aV O rows y):aR O (fun j=>O.mul (y j) (x j)) n=0:=by
 obtain⟨a,A⟩:=C;have e:∀j,O.mul (y j) (x j)=aR O (fun i=>O.mul (a i) (O.mul (ent rows i j) (x j))) rows.length:=fun j=>by rw[A j,oR hO];exact aJ fun i _=>hO.mul_assoc _ _ _
 rw[aJ fun j _=>e j,iR hO];refine bK hO fun i hi=>?_;rw[<-dN hO,B i hi,hO.mul_zero]
theorem dC.inside{A B:LL}{n:Nat}{x:Nat->Int}(h:dC O q B n x)(hI:dY O A B):dC O q A n x:=
 ⟨fun i hi=>nX hO h.1 (hI i hi),h.2.1,h.2.2⟩
theorem dC.alike{A B:LL}{n:Nat}{x:Nat->Int}(h:gV O A B):dC O q A n x↔dC O q B n x:=
 ⟨fun k=>k.inside hO h.2,fun k=>k.inside hO h.1⟩
theorem dC.zero(A:LL)(n:Nat):dC O q A n fun _=>0:=
 ⟨fun i _=>bK hO fun j _=>hO.mul_zero _,fun _ _=>rfl,fun _=>⟨Int.le_refl 0,by have:=hO.lt.pos;show(0:Int)<q;omega⟩⟩
theorem dC.add{A:LL}{n:Nat}{x y:Nat->Int}(C:dC O q A n x)(D:dC O q A n y):dC O q A n fun j=>O.add (x j) (y j):=by
 refine⟨fun i hi=>?_,fun j B=>?_,fun j=>hO.lt.add _ _⟩
 .dsimp only;rw[aJ (g:=fun j=>O.add (O.mul (ent A i j) (x j)) (O.mul (ent A i j) (y j))) fun j _=>hO.mul_add _ _ _,fP hO,C.1 i hi,D.1 i hi,hO.zero_zero]
 .dsimp only;rw[C.2.1 j B,D.2.1 j B,hO.zero_zero]
theorem dC.smul{A:LL}{n:Nat}{x:Nat->Int}(c:Int)(B:dC O q A n x):dC O q A n fun j=>O.mul c (x j):=by
 refine⟨fun i hi=>?_,fun j C=>?_,fun j=>hO.lt.mul _ _⟩
 .dsimp only;rw[aJ (g:=fun j=>O.mul c (O.mul (ent A i j) (x j))) fun j _=>by rw[<-hO.mul_assoc,hO.mul_comm _ c,hO.mul_assoc],<-dN hO,B.1 i hi,hO.mul_zero]
 .dsimp only;rw[B.2.1 j C,hO.mul_zero]
theorem dC.sum{A:LL}{n:Nat}{x:Nat->Nat->Int}:∀{m:Nat},(∀i,i<m->dC O q A n (x i))->dC O q A n fun j=>aR O (fun i=>x i j) m
 |0,_=>dC.zero hO A n
 |m+1,h=>(dC.sum fun i hi=>h i (by omega)).add hO (h m (by omega))
theorem dC.span{A B:LL}{n:Nat}{x:Nat->Int}(h:∀i,i<B.length->dC O q A n (ent B i))(E:aV O B x):dC O q A n x:=by obtain⟨a,D⟩:=E;have C:=dC.sum hO (x:=fun i j=>O.mul (a i) (ent B i j)) fun i hi=>(h i hi).smul hO (a i);have e:x=fun j=>aR O (fun i=>O.mul (a i) (ent B i j)) B.length:=funext D;rw[e];exact C
section
variable {n:Nat} {A:LL} {p:LI} (hA:dP O q n A p)
include hA
omit hO in
theorem eD(c:Nat):mQ p c=true↔∃i,i<A.length/\pvt p i=c:=by
 unfold mQ;rw[List.any_eq_true];constructor
 .rintro ⟨x,C,e⟩;rw[beq_iff_eq] at e;obtain⟨i,hi,rfl⟩:=List.mem_iff_getElem.1 C;refine⟨i,by rw[<-hA.len];exact hi,?_⟩;unfold pvt;simp[List.getD,hi,e]
 .rintro ⟨i,hi,e⟩;have B:i<p.length:=by rw[hA.len];exact hi
  refine⟨p[i],aY6 B,?_⟩;have:=hA.nn i hi;rw[beq_iff_eq,<-e,<-this];simp[List.getD,B]
omit hO in
theorem EQ{i k:Nat}(hi:i<A.length)(B:k<A.length)(e:pvt p i=pvt p k):i=k:=by
 rcases Nat.lt_trichotomy i k with h|h|h
 .have:=hA.inc i k h B;omega
 .exact h
 .have:=hA.inc k i h hi;omega
omit hO in
theorem pD{c:Nat}:∀{k:Nat},k<=A.length->∀i,i<k->(bZ O A p n c k).getD (pvt p i) 0=O.neg (ent A i c)
 |0,_,i,hi=>by omega
 |k+1,hk,i,hi=>by
  have B:=fY O A p n c k;rw[bZ];by_cases e:i=k
  .subst e;have:=hA.lt i (by omega);simp[List.getD,List.getElem?_set,B,this]
  .have C:¬pvt p k=pvt p i:=fun h=>e (EQ hA (by omega) (by omega) h.symm);have:((bZ O A p n c k).set (pvt p k) (O.neg (ent A k c))).getD (pvt p i) 0=(bZ O A p n c k).getD (pvt p i) 0:=by
    simp[List.getD,List.getElem?_set,C]
   rw[this];exact pD (by omega) i (by omega)
omit hO hA in
theorem eK{c j:Nat}:∀{k:Nat},(∀i,i<k->pvt p i≠j)->(bZ O A p n c k).getD j 0=if c=j/\j<n then 1 else 0
 |0,_=>by
  rw[bZ];by_cases h:c=j/\j<n
  .rw[if_pos h];obtain⟨B,C⟩:=h;subst B;simp[List.getD,List.getElem?_set,C]
  .rw[if_neg h];by_cases B:c=j
   .have C:¬j<n:=fun C=>h ⟨B,C⟩;exact aW (by simp;omega)
   .simp[List.getD,List.getElem?_set,B,List.getElem?_replicate];split<;>rfl
 |k+1,h=>by
  rw[bZ];have D:¬pvt p k=j:=h k (by omega);have:((bZ O A p n c k).set (pvt p k) (O.neg (ent A k c))).getD j 0=(bZ O A p n c k).getD j 0:=by simp[List.getD,List.getElem?_set,D]
  rw[this];exact eK fun i hi=>h i (by omega)
theorem sX(c j:Nat):0<=(bZ O A p n c A.length).getD j 0/\(bZ O A p n c A.length).getD j 0<q:=by
 have hq:=hO.lt.pos;by_cases h:mQ p j=true
 .obtain⟨i,hi,e⟩:=(eD hA j).1 h;rw[<-e,pD hA zr i hi];exact hO.neg_lt _
 .have B:∀i,i<A.length->pvt p i≠j:=fun i hi e=>h ((eD hA j).2 ⟨i,hi,e⟩);rw[eK B];split<;>omega
theorem rS{c:Nat}(H:c<n)(J:mQ p c=false):dC O q A n fun j=>(bZ O A p n c A.length).getD j 0:=by
 have hq:=hO.lt.pos;have I:∀i,i<A.length->pvt p i≠c:=fun i hi e=>by have:=(eD hA c).2 ⟨i,hi,e⟩;rw[J] at this;cases this
 refine⟨fun i hi=>?_,fun j G=>aW (by rw[fY];exact G),fun j=>sX hO hA c j⟩;have K:=hA.lt i hi;have e:∀j,j<n->O.mul (ent A i j) ((bZ O A p n c A.length).getD j 0)=O.add (if j=pvt p i then O.neg (ent A i c) else 0) (if j=c then ent A i c else 0):=fun j G=>by
  have D:=hA.r hO i c;by_cases h:mQ p j=true
  .obtain⟨k,C,rfl⟩:=(eD hA j).1 h;rw[pD hA zr k C,if_neg (I k C)];by_cases F:k=i
   .subst F;rw[if_pos rfl,hA.one k C,hO.one_mul (hO.neg_lt _).1 (hO.neg_lt _).2,hO.add_zero _ (hO.neg_lt _).1 (hO.neg_lt _).2]
   .rw[if_neg (fun e=>F (EQ hA C hi e)),hA.off k C i (fun e=>F e.symm),hO.zero_mul,hO.zero_zero]
  .have B:∀i,i<A.length->pvt p i≠j:=fun i hi e=>h ((eD hA j).2 ⟨i,hi,e⟩);rw[if_neg (show ¬j=pvt p i from fun e=>B i hi e.symm),eK B];by_cases E:j=c
   .subst E;rw[if_pos ⟨rfl,G⟩,if_pos rfl,hO.mul_one _ D.1 D.2,hO.zero_add D.1 D.2]
   .rw[if_neg (show ¬(c=j/\j<n) from fun e=>E e.1.symm),if_neg E,hO.mul_zero,hO.zero_zero]
 rw[aJ e,fP hO,bP hO (k:=pvt p i) (by rw[if_pos rfl];exact hO.neg_lt _) K (fun j _ B=>if_neg B),bP hO (k:=c) (by rw[if_pos rfl];exact hA.r hO i c) H (fun j _ B=>if_neg B)];rw[if_pos rfl,if_pos rfl,hO.neg_add]
omit hO in
theorem iY:∀c,c<=n->∀i,i<(bQ O A p n c).length->∃d,d<c/\mQ p d=false/\(bQ O A p n c).getD i []=bZ O A p n d A.length
 |0,_,i,hi=>absurd hi (by simp[bQ])
 |c+1,hc,i,hi=>by
  rw[bQ] at hi|-;by_cases h:mQ p c=true
  .rw[if_pos h] at hi|-;obtain⟨d,D,B,C⟩:=iY c (by omega) i hi;exact⟨d,by omega,B,C⟩
  .rw[if_neg h] at hi|-;rw[aZ1,aZ2] at hi;by_cases e:i<(bQ O A p n c).length
   .obtain⟨d,D,B,C⟩:=iY c (by omega) i e;refine⟨d,by omega,B,?_⟩;rw[<-C];simp[List.getD,aY2 e]
   .obtain rfl:i=(bQ O A p n c).length:=by omega
    refine⟨c,by omega,by cases hh:mQ p c;rfl;exact absurd hh h,?_⟩;rw[hA.len];simp[List.getD]
theorem kV:Rows q n (bQ O A p n n):=fun k B=>by obtain⟨d,_,_,h⟩:=iY hA n zr k B;rw[h];exact⟨fY O A p n d _,fun i=>sX hO hA d i⟩
omit hO hA in
theorem lJ{l:LL}{r:LI}{i:Nat}(h:i<l.length)(j:Nat):ent (l++[r]) i j=ent l i j:=by unfold ent;simp[List.getD,aY2 h]
omit hO hA in
theorem jH{l:LL}{r:LI}(j:Nat):ent (l++[r]) l.length j=r.getD j 0:=by unfold ent;simp[List.getD]
omit hO hA in
theorem aV.snoc{l:LL}{r:LI}{x:Nat->Int}(c:Int)(B:aV O l x):aV O (l++[r]) fun j=>O.add (x j) (O.mul c (r.getD j 0)):=by obtain⟨a,A⟩:=B;refine⟨fun i=>if i<l.length then a i else c,fun j=>?_⟩;dsimp only;rw[aZ1,aZ2,aR,jH,if_neg (Nat.lt_irrefl _),A j];congr 1;refine aJ fun i hi=>?_;rw[lJ hi,if_pos hi]
theorem CB(x:Nat->Int):∀c,aV O (bQ O A p n c) fun j=>aR O (fun d=>if mQ p d then 0 else O.mul (x d) ((bZ O A p n d A.length).getD j 0)) c
 |0=>aV.zero hO _
 |c+1=>by
  have B:=CB x c;rw[bQ];by_cases h:mQ p c=true
  .rw[if_pos h];refine B.congr fun j=>?_;rw[aR,if_pos h,hO.add_zero _ (cW hO _ _).1 (cW hO _ _).2]
  .rw[if_neg h];refine(B.snoc (x c) (r:=bZ O A p n c p.length)).congr fun j=>?_;rw[aR,if_neg h,hA.len]
theorem N7{x:Nat->Int}(B:dC O q A n x):aV O (bQ O A p n n) x:=by
 refine(CB hO hA x n).congr fun j=>?_;by_cases F:j<n
 .by_cases h:mQ p j=true
  .obtain⟨k,G,rfl⟩:=(eD hA j).1 h;have I:=B.1 k G;have e:∀d,d<n->O.mul (ent A k d) (x d)=O.add (if d=pvt p k then x (pvt p k) else 0) (if mQ p d then 0 else O.mul (ent A k d) (x d)):=fun d K=>by
    by_cases C:mQ p d=true
    .rw[if_pos C];obtain⟨i,hi,rfl⟩:=(eD hA d).1 C;by_cases E:i=k
     .subst E;rw[if_pos rfl,hA.one i hi,hO.one_mul (B.2.2 _).1 (B.2.2 _).2,hO.add_zero _ (B.2.2 _).1 (B.2.2 _).2]
     .rw[if_neg (fun e=>E (EQ hA hi G e)),hA.off i hi k (fun e=>E e.symm),hO.zero_mul,hO.zero_zero]
    .have:d≠pvt p k:=fun e=>C (e▸h);rw[if_neg C,if_neg this,hO.zero_add (hO.lt.mul _ _).1 (hO.lt.mul _ _).2]
   rw[aJ e,fP hO,bP hO (k:=pvt p k) (by rw[if_pos rfl];exact B.2.2 _) F (fun i _ D=>if_neg D),if_pos rfl,hO.add_comm] at I;have J:=hO.neg_unique (B.2.2 _) I;rw[J,wJ hO];refine aJ fun d K=>?_;by_cases C:mQ p d=true
   .rw[if_pos C,if_pos C,hO.neg_zero]
   .rw[if_neg C,if_neg C,pD hA zr k G,hO.mul_comm (x d),hO.neg_mul]
  .have D:∀i,i<A.length->pvt p i≠j:=fun i hi e=>h ((eD hA j).2 ⟨i,hi,e⟩);have H:(if mQ p j=true then(0:Int) else O.mul (x j) ((bZ O A p n j A.length).getD j 0))=x j:=by
    rw[if_neg h,eK D,if_pos ⟨rfl,F⟩,hO.mul_one _ (B.2.2 _).1 (B.2.2 _).2]
   rw[bP hO (k:=j) (by rw[H];exact B.2.2 _) F (fun d _ L=>by rw[eK D,if_neg (show ¬(d=j/\j<n) from fun e=>L e.1),hO.mul_zero,ite_self]),H]
 .rw[B.2.1 j (by omega)];exact(bK hO fun d _=>by rw[aW (by rw[fY];omega),hO.mul_zero,ite_self]).symm
theorem FX{x:Nat->Int}:aV O (bQ O A p n n) x↔dC O q A n x:=
 ⟨dC.span hO fun i hi=>by
  obtain⟨d,B,C,D⟩:=iY hA n zr i hi;have e:ent (bQ O A p n n) i=fun j=>(bZ O A p n d A.length).getD j 0:=by funext j;unfold ent;rw[D]
  rw[e];exact rS hO hA B C,N7 hO hA⟩
end
theorem iZ{n:Nat}{rows:LL}(h:Rows q n rows):dP O q n (cA O rows n) (jX O (bQ O (bC O rows n) (jX O rows n) n n) n):=by obtain⟨hA,_⟩:=bX hO h;exact(bX hO (kV hO hA)).1
theorem fO{n:Nat}{rows:LL}(h:Rows q n rows)(x:Nat->Int):aV O (cA O rows n) x↔dC O q rows n x:=by obtain⟨hA,A⟩:=bX hO h;obtain⟨_,B⟩:=bX hO (kV hO hA);rw[show aV O (cA O rows n) x↔aV O (bQ O (bC O rows n) (jX O rows n) n n) x from B.span hO x,FX hO hA,dC.alike hO A]
end
def tS(O:aO)(q:Int)(A:Nat->Nat->Int)(m:Nat):Prop:=
 ∀c:Nat->Int,(∀i,0<=c i/\c i<q)->(∀j,aR O (fun i=>O.mul (c i) (A i j)) m=0)->∀i,i<m->c i=0
section
variable {O:aO} {q:Int} (hO:O.Fld q)
include hO
theorem tN(f:Nat->Int)(C:∀i,0<=f i/\f i<q):∀{m k:Nat},k<m+1->aR O f (m+1)=O.add (aR O (fun i=>f (if i<k then i else i+1)) m) (f k)
 |m,k,hk=>by
  by_cases e:k=m
  .subst e;rw[aR];congr 1;exact aJ fun i hi=>by rw[if_pos hi]
  .obtain⟨A,rfl⟩:∃A,m=A+1:=⟨m-1,by omega⟩
   rw[aR,tN f C (m:=A) (k:=k) (by omega),aR];have B:(if A<k then A else A+1)=A+1:=if_neg (by omega);rw[B,hO.add_assoc,hO.add_comm (f k),<-hO.add_assoc]
theorem qO:∀(k m:Nat) (B b a:Nat->Nat->Int),(∀i l,0<=a i l/\a i l<q)->(∀i j,i<m->B i j=aR O (fun l=>O.mul (a i l) (b l j)) k)->tS O q B m->m<=k
 |0,m,B,b,a,_,hw,hI=>by
   refine Decidable.byContradiction fun hm=>?_;have hq:=hO.lt.pos;have E:=hI (fun i=>if i=0 then 1 else 0) (fun i=>by split<;>omega) (fun j=>bK hO fun i hi=>by rw[hw i j hi];exact hO.mul_zero _) 0 (by omega);rw[if_pos rfl] at E;cases E
 |k+1,m,B,b,a,ha,hw,hI=>by
   by_cases K:∀i,i<m->a i k=0
   . have:=qO k m B b a ha (fun i j hi=>by rw[hw i j hi,aR,K i hi,hO.zero_mul,hO.add_zero _ (cW hO _ _).1 (cW hO _ _).2]) hI;omega
   . obtain⟨A,H,V⟩:∃A,A<m/\a A k≠0:=by
       refine Decidable.byContradiction fun h=>K fun i hi=>Decidable.byContradiction fun M=>h ⟨i,hi,M⟩
     obtain⟨C,rfl⟩:∃C,m=C+1:=⟨m-1,by omega⟩
     have S:=ha A k;have R:=hO.mul_inv (a A k) (by omega) S.2
     --what is taken of word A away from the others
     obtain⟨d,F⟩:∃d:Nat->Int,d=fun i=>O.neg (O.mul (a (if i<A then i else i+1) k) (O.inv (a A k))):=⟨_,rfl⟩
     have U:∀i,0<=d i/\d i<q:=fun i=>by rw[F];exact hO.neg_lt _
     have P:∀i,O.add (a (if i<A then i else i+1) k) (O.mul (d i) (a A k))=0:=fun i=>by rw[F];dsimp only;rw[hO.neg_mul,hO.mul_assoc,hO.mul_comm (O.inv _),R,hO.mul_one _ (ha _ _).1 (ha _ _).2,hO.add_neg]
     have I:∀i,i<C->(if i<A then i else i+1)<C+1:=fun i hi=>by split<;>omega
     have W:∀i j,i<C+1->0<=B i j/\B i j<q:=fun i j hi=>by rw[hw i j hi];exact cW hO _ _
     have:=qO k C (fun i j=>O.add (B (if i<A then i else i+1) j) (O.mul (d i) (B A j))) b (fun i l=>O.add (a (if i<A then i else i+1) l) (O.mul (d i) (a A l)))
       (fun i l=>hO.lt.add _ _) (fun i j hi=>by
         rw[hw _ j (I i hi),hw A j H,dN hO,<-fP hO,aR];have J:∀l,O.add (O.mul (a (if i<A then i else i+1) l) (b l j)) (O.mul (d i) (O.mul (a A l) (b l j)))=O.mul (O.add (a (if i<A then i else i+1) l) (O.mul (d i) (a A l))) (b l j):=fun l=>by rw[<-hO.mul_assoc,<-hO.add_mul]
         rw[J k,P i,hO.zero_mul,hO.add_zero _ (cW hO _ _).1 (cW hO _ _).2];exact aJ fun l _=>J l)
       (fun c N T i hi=>by
         --the combination,said of the words themselves
         obtain⟨e,D⟩:∃e:Nat->Int,e=fun i=>if i=A then aR O (fun i=>O.mul (c i) (d i)) C else c (if i<A then i else i-1):=⟨_,rfl⟩
         have Q:∀i,0<=e i/\e i<q:=fun i=>by
           rw[D];dsimp only;split
           . exact cW hO _ _
           . exact N _
         have G:∀i,e (if i<A then i else i+1)=c i:=fun i=>by
           rw[D];dsimp only;by_cases h:i<A
           . rw[if_pos h,if_neg (by omega),if_pos h]
           . rw[if_neg h,if_neg (by omega),if_neg (by omega),Nat.add_sub_cancel]
         have hrel:∀j,aR O (fun i=>O.mul (e i) (B i j)) (C+1)=0:=fun j=>by
           rw[tN hO (fun i=>O.mul (e i) (B i j)) (fun i=>hO.lt.mul _ _) H];have L:e A=aR O (fun i=>O.mul (c i) (d i)) C:=by rw[D];exact if_pos rfl
           rw[L,oR hO,<-fP hO,<-T j];refine aJ fun i hi=>?_;rw[G,hO.mul_add,hO.mul_assoc]
         have:=hI e Q hrel (if i<A then i else i+1) (I i hi);rw[G] at this;exact this)
     omega
theorem pM{n:Nat}{A:LL}{p:LI}(hA:dP O q n A p):tS O q (ent A) A.length:=fun c B C i hi=>by have h:=C (pvt p i);rwa[hA.coef hO hi (B i)] at h
theorem pG{B:LL}{C:Nat->Nat->Int}{m:Nat}(hI:tS O q C m)(h:∀i,i<m->aV O B (C i)):m<=B.length:=by
 obtain⟨a,A⟩:∃a:Nat->Nat->Int,∀i,i<m->∀j,C i j=aR O (fun l=>O.mul (a i l) (ent B l j)) B.length:=by
  have G:∀i,∃a:Nat->Int,i<m->∀j,C i j=aR O (fun l=>O.mul (a l) (ent B l j)) B.length:=fun i=>by
   by_cases hi:i<m
   .obtain⟨a,A⟩:=h i hi;exact⟨a,fun _=>A⟩
   .exact⟨fun _=>0,fun h=>absurd h hi⟩
  obtain⟨a,A⟩:=Classical.axiomOfChoice G;exact⟨a,A⟩
 by_cases D:gW q B
 .refine qO hO B.length m C (fun l j=>ent B l j) (fun i l=>O.mul (a i l) 1) (fun i l=>hO.lt.mul _ _) (fun i j hi=>?_) hI;rw[A i hi j];exact aJ fun l _=>by rw[hO.mul_assoc,hO.one_mul (D l j).1 (D l j).2]
 .refine qO hO B.length m C (fun l j=>O.mul 1 (ent B l j)) (fun i l=>O.mul (a i l) 1) (fun i l=>hO.lt.mul _ _) (fun i j hi=>?_) hI;rw[A i hi j];refine aJ fun l _=>?_;have E:O.mul 1 1=1:=hO.mul_one 1 (by omega) (by have:=hO.lt.pos;omega);rw[hO.mul_assoc,<-hO.mul_assoc 1 1,E]
  --a factor counts only as an element
  have F:O.mul (a i l) (ent B l j)=O.mul (O.mul (a i l) (ent B l j)) 1:=(hO.mul_one _ (hO.lt.mul _ _).1 (hO.lt.mul _ _).2).symm;rw[F,hO.mul_assoc,hO.mul_comm (ent B l j)]
theorem zG{n:Nat}{A:LL}{p:LI}(hA:dP O q n A p):∀c,c<=n->tS O q (ent (bQ O A p n c)) (bQ O A p n c).length
 |0,_=>fun _ _ _ i hi=>absurd hi (by simp[bQ])
 |c+1,hc=>by
  have H:=zG hA c (by omega);by_cases C:mQ p c=true
  .rw[bQ,if_pos C];exact H
  .rw[bQ,if_neg C];intro E B D i hi;rw[aZ1,aZ2] at hi D;have G:∀i,i<A.length->pvt p i≠c:=fun i hi e=>C ((eD hA c).2 ⟨i,hi,e⟩);have F:E (bQ O A p n c).length=0:=by
    have h:=D c;rw[aR,jH,hA.len,eK G,if_pos ⟨rfl,by omega⟩,hO.mul_one _ (B _).1 (B _).2,bK hO (fun i hi=>?_),hO.zero_add (B _).1 (B _).2] at h
    .exact h
    .rw[lJ hi];obtain⟨d,J,K,I⟩:=iY hA c (by omega) i hi;unfold ent;rw[I,eK G,if_neg (fun e=>by omega),hO.mul_zero]
   by_cases e:i=(bQ O A p n c).length
   .rw[e];exact F
   .refine H E B (fun j=>?_) i (by omega);have h:=D j;rw[aR,F,hO.zero_mul,hO.add_zero _ (cW hO _ _).1 (cW hO _ _).2] at h;rw[<-h];exact aJ fun i hi=>by rw[lJ hi]
omit hO in
theorem vA{n:Nat}{A:LL}{p:LI}(hA:dP O q n A p):∀c,c<=n->∃k,k<=A.length/\(∀i,i<k->pvt p i<c)/\(∀i,k<=i->i<A.length->c<=pvt p i)/\(bQ O A p n c).length+k=c
 |0,_=>⟨0,aZ5 _,fun i hi=>absurd hi (aY5 _),fun _ _ _=>aZ5 _,rfl⟩
 |c+1,hc=>by
  obtain⟨k,H,E,F,L⟩:=vA hA c (by omega);by_cases D:mQ p c=true
  .rw[bQ,if_pos D];obtain⟨i,hi,e⟩:=(eD hA c).1 D;have K:i=k:=by
    rcases Nat.lt_trichotomy i k with h|h|h
    .have:=E i h;omega
    .exact h
    .have I:=hA.inc k i h hi;have J:=F k zr (by omega);omega
   subst K;refine⟨i+1,by omega,fun j B=>?_,fun j B C=>?_,by omega⟩
   .by_cases G:j=i
    .rw[G];omega
    .have:=E j (by omega);omega
   .have:=hA.inc i j (by omega) C;omega
  .rw[bQ,if_neg D,aZ1,aZ2];refine⟨k,H,fun j B=>by have:=E j B;omega,fun j B C=>?_,by omega⟩;have I:=F j B C;have J:pvt p j≠c:=fun e=>D ((eD hA c).2 ⟨j,C,e⟩);omega
theorem GQ{n:Nat}{rows:LL}(h:Rows q n rows):(cA O rows n).length+(bC O rows n).length=n:=by
 obtain⟨hA,_⟩:=bX hO h;obtain⟨B,A⟩:=bX hO (kV hO hA);obtain⟨k,I,J,D,K⟩:=vA hA n zr;have G:k=(bC O rows n).length:=by refine Decidable.byContradiction fun H=>?_;have E:=D k zr (by omega);have F:=hA.lt k (by omega);omega
 have C:dP O q n (cA O rows n) (jX O (bQ O (bC O rows n) (jX O rows n) n n) n):=B;have L:(cA O rows n).length<=(bQ O (bC O rows n) (jX O rows n) n n).length:=pG hO (pM hO C) fun i hi=>A.1 i hi;have M:(bQ O (bC O rows n) (jX O rows n) n n).length<=(cA O rows n).length:=pG hO (zG hO hA n zr) fun i hi=>A.2 i hi;omega
end
section
variable {O:aO} {q:Int} (hO:O.Fld q)
include hO
theorem CV{n:Nat}{rows:LL}(h:Rows q n rows)(x:Nat->Int):aV O (cA O (cA O rows n) n) x↔aV O rows x:=by
 obtain⟨hA,T⟩:=bX hO h;obtain⟨_,V⟩:=bX hO (kV hO hA);have U:=iZ hO h;rw[fO hO U.rows x,show dC O q (cA O rows n) n x↔dC O q (bQ O (bC O rows n) (jX O rows n) n n) n x from dC.alike hO V,<-T.span hO x];generalize bC O rows n=A at hA;generalize jX O rows n=p at hA;constructor
 . intro B
   --x less the combination that its entries at the JX give
   obtain⟨s,J⟩:∃s:Nat->Int,s=fun j=>aR O (fun i=>O.mul (x (pvt p i)) (ent A i j)) A.length:=⟨_,rfl⟩
   have K:aV O A s:=⟨fun i=>x (pvt p i),fun j=>by rw[J]⟩
   have P:=K.lt hO;obtain⟨y,I⟩:∃y:Nat->Int,y=fun j=>O.add (x j) (O.neg (s j)):=⟨_,rfl⟩
   have L:∀j,0<=y j/\y j<q:=fun j=>by rw[I];exact hO.lt.add _ _
   have R:∀i,i<A.length->y (pvt p i)=0:=fun i hi=>by
     have:s (pvt p i)=x (pvt p i):=by rw[J];exact hA.coef hO hi (B.2.2 _)
     rw[I];dsimp only;rw[this,hO.add_neg]
   have f:∀c,c<n->mQ p c=false->y c=0:=fun c G D=>by
     have Z:∀i,i<A.length->pvt p i≠c:=fun i hi e=>by have:=(eD hA c).2 ⟨i,hi,e⟩;rw[D] at this;cases this
     have Y:aV O (bQ O A p n n) fun j=>(bZ O A p n c A.length).getD j 0:=(FX hO hA).2 (rS hO hA G D);have E:aR O (fun j=>O.mul ((bZ O A p n c A.length).getD j 0) (x j)) n=0:=nX hO B.1 Y;have C:aR O (fun j=>O.mul (s j) ((bZ O A p n c A.length).getD j 0)) n=0:=nX hO (rS hO hA G D).1 K;have F:aR O (fun j=>O.mul ((bZ O A p n c A.length).getD j 0) (y j)) n=0:=by rw[aJ (g:=fun j=>O.add (O.mul ((bZ O A p n c A.length).getD j 0) (x j)) (O.neg (O.mul (s j) ((bZ O A p n c A.length).getD j 0)))) fun j _=>by rw[I];dsimp only;rw[hO.mul_add,hO.mul_comm _ (O.neg (s j)),hO.neg_mul],fP hO,E,<-wJ hO,C,hO.neg_zero,hO.zero_zero]
     have M:O.mul ((bZ O A p n c A.length).getD c 0) (y c)=y c:=by rw[eK Z,if_pos ⟨rfl,G⟩,hO.one_mul (L c).1 (L c).2]
     rw[bP hO (k:=c) (by rw[M];exact L c) G (fun j H X=>?_),M] at F
     . exact F
     . by_cases N:mQ p j=true
       . obtain⟨i,hi,e⟩:=(eD hA j).1 N;rw[<-e,R i hi,hO.mul_zero]
       . have b:∀i,i<A.length->pvt p i≠j:=fun i hi e=>N ((eD hA j).2 ⟨i,hi,e⟩);rw[eK b,if_neg (fun e=>X e.1.symm),hO.zero_mul]
   refine K.congr fun j=>?_;by_cases H:j<n
   . have Q:y j=0:=by
       cases D:mQ p j
       . exact f j H D
       . obtain⟨i,hi,e⟩:=(eD hA j).1 D;rw[<-e];exact R i hi
     rw[I] at Q;have E:=hO.neg_unique (hO.neg_lt (s j)) Q;have C:=congrArg O.neg E;rw[hO.neg_neg (P j).1 (P j).2,hO.neg_neg (B.2.2 j).1 (B.2.2 j).2] at C;exact C.symm
   . rw[B.2.1 j (by omega),J];exact(bK hO fun i hi=>by rw[kK hA.rows (by omega),hO.mul_zero]).symm
 . intro B;refine⟨fun i hi=>?_,fun j H=>?_,B.lt hO⟩
   . obtain⟨d,E,C,F⟩:=iY hA n zr i hi;have S:=nX hO (rS hO hA E C).1 B;rw[<-S];refine aJ fun j _=>?_;unfold ent;rw[F,hO.mul_comm]
   . obtain⟨a,W⟩:=B;rw[W j];exact bK hO fun i hi=>by rw[kK hA.rows H,hO.mul_zero]
end
theorem gK{A B:LL}{i:Nat}(h:i<A.length)(j:Nat):ent (A++B) i j=ent A i j:=by unfold ent;simp[List.getD,aY2 h]
theorem kB{A B:LL}(i j:Nat):ent (A++B) (A.length+i) j=ent B i j:=by unfold ent;simp[List.getD,List.getElem?_append_right (Nat.le_add_right A.length i)]
theorem Rows.app{q:Int}{n:Nat}{A B:LL}(hA:Rows q n A)(hB:Rows q n B):Rows q n (A++B):=fun k C=>by
 rw[aZ1] at C;by_cases h:k<A.length
 .have:(A++B).getD k []=A.getD k []:=by simp[List.getD,aY2 h]
  rw[this];exact hA k h
 .have:(A++B).getD k []=B.getD (k-A.length) []:=by simp[List.getD,List.getElem?_append_right (show A.length<=k by omega)]
  rw[this];exact hB _ (by omega)
section
variable {O:aO} {q:Int} (hO:O.Fld q)
include hO
theorem rB(f:Nat->Int)(a:Nat):∀b,aR O f (a+b)=O.add (aR O f a) (aR O (fun i=>f (a+i)) b)
 |0=>(hO.add_zero _ (cW hO _ _).1 (cW hO _ _).2).symm
 |b+1=>by rw[<-Nat.add_assoc,aR,rB f a b,aR,hO.add_assoc]
theorem qY{A B:LL}(x:Nat->Int):aV O (A++B) x↔∃y z,aV O A y/\aV O B z/\∀j,x j=O.add (y j) (z j):=by
 constructor
 .rintro ⟨a,C⟩;refine⟨_,_,⟨a,fun j=>rfl⟩,⟨fun i=>a (A.length+i),fun j=>rfl⟩,fun j=>?_⟩;rw[C j,aZ1,rB hO];congr 1
  .exact aJ fun i hi=>by rw[gK hi]
  .exact aJ fun i _=>by rw[kB]
 .rintro ⟨y,z,⟨a,C⟩,⟨b,hb⟩,h⟩;refine⟨fun i=>if i<A.length then a i else b (i-A.length),fun j=>?_⟩;rw[h j,C j,hb j,aZ1,rB hO];congr 1
  .exact aJ fun i hi=>by dsimp only;rw[if_pos hi,gK hi]
  .exact aJ fun i _=>by dsimp only;rw[if_neg (show ¬A.length+i<A.length by omega),kB,Nat.add_sub_cancel_left]
omit hO in
theorem SE{A B:LL}{n:Nat}{x:Nat->Int}:dC O q (A++B) n x↔dC O q A n x/\dC O q B n x:=by
 constructor
 .rintro ⟨C,D,E⟩;refine⟨⟨fun i hi=>?_,D,E⟩,⟨fun i hi=>?_,D,E⟩⟩
  .rw[<-C i (by rw[aZ1];omega)];exact aJ fun j _=>by rw[gK hi]
  .rw[<-C (A.length+i) (by rw[aZ1];omega)];exact aJ fun j _=>by rw[kB]
 .rintro ⟨⟨C,D,E⟩,F,_,_⟩;refine⟨fun i hi=>?_,D,E⟩;rw[aZ1] at hi;by_cases h:i<A.length
  .rw[<-C i h];exact aJ fun j _=>by rw[gK h]
  .obtain⟨k,rfl⟩:∃k,i=A.length+k:=⟨i-A.length,by omega⟩
   rw[<-F k (by omega)];exact aJ fun j _=>by rw[kB]
end
end Go.Proofs.YtpfhoemohibniaaGreatDoor
