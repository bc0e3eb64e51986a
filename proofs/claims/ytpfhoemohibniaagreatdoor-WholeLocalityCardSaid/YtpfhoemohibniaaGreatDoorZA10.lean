/- Texts of a claim, merged. -/
import Derived.Test.YtpfhoemohibniaaGreatDoorZA7
set_option maxRecDepth 100000
set_option linter.unusedVariables false
set_option maxHeartbeats 32000000
namespace Go.Proofs.YtpfhoemohibniaaGreatDoor
section
variable {O:aO} {q:Int} (hO:O.Fld q)
include hO
theorem qZ{A:LL}(B:gW q A){x:Nat->Int}(h:aV O A x):∃a:Nat->Int,(∀i,0<=a i/\a i<q)/\∀j,x j=aR O (fun i=>O.mul (a i) (ent A i j)) A.length:=by obtain⟨a,C⟩:=h;refine⟨fun i=>O.mul (a i) 1,fun i=>hO.lt.mul _ _,fun j=>?_⟩;rw[C j];exact aJ fun i _=>by rw[hO.mul_assoc,hO.one_mul (B i j).1 (B i j).2]
theorem B4 {B : LL} {m : Nat} (c : Nat -> Int) (a : Nat -> Nat -> Int) (A : Nat -> Nat -> Int) (h : ∀ i, i < m -> ∀ j, A i j = aR O (fun l => O.mul (a i l) (ent B l j)) B.length) (j : Nat) :
   aR O (fun i=>O.mul (c i) (A i j)) m=aR O (fun l=>O.mul (aR O (fun i=>O.mul (c i) (a i l)) m) (ent B l j)) B.length:=by
 rw[aJ (g:=fun i=>aR O (fun l=>O.mul (c i) (O.mul (a i l) (ent B l j))) B.length) fun i hi=>by rw[h i hi j,dN hO],iR hO];refine aJ fun l _=>?_;rw[oR hO];exact aJ fun i _=>(hO.mul_assoc _ _ _).symm
end
structure Bas(q:Int)(m:Nat)(R:LL)(pl:LI):Prop where
 rows:Rows q m R
 len:pl.length=R.length
 lt:∀i,i<R.length->0<=pl.getD i 0/\pvt pl i<m
 one:∀i,i<R.length->ent R i (pvt pl i)=1
 low:∀i,i<R.length->∀j,j<i->ent R i (pvt pl j)=0
def dL(O:aO)(R:LL)(pl:LI)(v:Nat->Int):Nat->Nat->Int
 |0=>v
 |i+1=>fun j=>O.add (dL O R pl v i j) (O.neg (O.mul (dL O R pl v i (pvt pl i)) (ent R i j)))
theorem Bas.nil(q:Int)(m:Nat):Bas q m [] []:=⟨fun k A=>absurd A (aY5 _),rfl,fun i hi=>absurd hi (aY5 _),fun i hi=>absurd hi (aY5 _),fun i hi=>absurd hi (aY5 _)⟩
section
variable {O:aO} {q:Int} (hO:O.Fld q) {m:Nat} {R:LL} {pl:LI}
include hO
theorem KE{n:Nat}{gen:LL}(hA:Rows q n gen){x:Nat->Int}(C:aV O gen x){j:Nat}(B:n<=j):x j=0:=by obtain⟨a,A⟩:=C;rw[A];exact bK hO fun i _=>by rw[kK hA B,hO.mul_zero]
theorem oM{v:Nat->Int}(A:∀j,0<=v j/\v j<q):∀i j,0<=dL O R pl v i j/\dL O R pl v i j<q
 |0,j=>A j
 |i+1,j=>hO.lt.add _ _
theorem wH(hB:Bas q m R pl){v:Nat->Int}(B:∀j,0<=v j/\v j<q):∀i,i<=R.length->∀j,j<i->dL O R pl v i (pvt pl j)=0
 |0,_,j,h=>absurd h (aY5 _)
 |i+1,hi,j,h=>by
  have A:=oM hO (R:=R) (pl:=pl) B i;simp only[dL];by_cases e:j=i
  .subst e;rw[hB.one j (by omega),hO.mul_one _ (A _).1 (A _).2,hO.add_neg]
  .rw[wH hB B i (by omega) j (by omega),hB.low i (by omega) j (by omega),hO.mul_zero,hO.neg_zero,hO.zero_zero]
theorem wF(hB:Bas q m R pl){v:Nat->Int}(A:∀j,0<=v j/\v j<q):∀i,i<=R.length->∃y,aV O R y/\∀j,dL O R pl v i j=O.add (v j) (y j)
 |0,_=>⟨_,aV.zero hO R,fun j=>(hO.add_zero _ (A j).1 (A j).2).symm⟩
 |i+1,hi=>by
  have hq:0<q:=by have:=hO.lt.pos;omega
  obtain⟨y,D,B⟩:=wF hB A i (by omega);have C:aV O R (ent R i):=aV.row hO (by omega) (hB.rows.r hq i);refine⟨_,aV.add hO D (aV.smul hO (O.neg (dL O R pl v i (pvt pl i))) C),fun j=>?_⟩;simp only[dL];rw[B j,hO.neg_mul,hO.add_assoc]
theorem P7(hB:Bas q m R pl){y:Nat->Int}(F:aV O R y)(G:∀i,i<R.length->y (pvt pl i)=0):∀j,y j=0:=by
 have hq:0<q:=by have:=hO.lt.pos;omega
 obtain⟨a,C,B⟩:=qZ hO (hB.rows.r hq) F;have E:∀i,i<R.length->a i=0:=fun i=>by
  induction i using Nat.strongRecOn with
  |ind i ih=>
   intro hi;have h:=B (pvt pl i);rw[G i hi,bP hO (k:=i) (hO.lt.mul _ _) hi fun k D H=>by
    rcases Nat.lt_or_ge k i with A|A
    .rw[ih k A D,hO.zero_mul]
    .rw[hB.low k D i (by omega),hO.mul_zero],hB.one i hi,hO.mul_one _ (C i).1 (C i).2] at h
   exact h.symm
 exact fun j=>(B j).trans (bK hO fun i hi=>by rw[E i hi,hO.zero_mul])
theorem G3(hB:Bas q m R pl){v:Nat->Int}(A:∀j,0<=v j/\v j<q):(∀j,dL O R pl v R.length j=0)↔aV O R v:=by
 obtain⟨y,B,C⟩:=wF hO hB A R.length zr;constructor
 .intro F;refine(aV.smul hO (O.neg 1) B).congr fun j=>?_;have h:=(C j).symm.trans (F j);have D:=B.lt hO j;rw[hO.neg_mul,hO.one_mul D.1 D.2];rw[hO.add_comm] at h;exact hO.neg_unique (A j) h
 .intro E;exact P7 hO hB ((aV.add hO E B).congr C) fun i hi=>wH hO hB A _ zr i hi
theorem Bas.snoc(hB:Bas q m R pl){v:Nat->Int}(H:∀j,0<=v j/\v j<q){k:Nat}(P:k<m)(d:dL O R pl v R.length k≠0){r:LI}(Q:r.length=m)
  (T:∀j,j<m->r.getD j 0=O.mul (O.inv (dL O R pl v R.length k)) (dL O R pl v R.length j))(X:∀j,m<=j->v j=0):
  Bas q m (R++[r]) (pl++[(k:Int)])/\∀x,aV O (R++[r]) x↔∃y c,aV O R y/\(0<=c/\c<q)/\∀j,x j=O.add (y j) (O.mul c (v j)):=by
 have hq:0<q:=by have:=hO.lt.pos;omega
 have D:=oM hO (R:=R) (pl:=pl) H R.length;have K:0<dL O R pl v R.length k:=by have:=(D k).1;omega
 have S:∀j,m<=j->r.getD j 0=0:=fun j A=>by simp[List.getD,aY4 (show r.length<=j by omega)]
 obtain⟨M,F,G⟩:=wF hO hB H R.length zr;have V:∀j,m<=j->dL O R pl v R.length j=0:=fun j A=>by rw[G j,X j A,KE hO hB.rows F A,hO.zero_zero]
 have B:∀j,r.getD j 0=O.mul (O.inv (dL O R pl v R.length k)) (dL O R pl v R.length j):=fun j=>by
  by_cases A:j<m
  .exact T j A
  .rw[S j (by omega),V j (by omega),hO.mul_zero]
 have E:∀i,i<R.length->pvt (pl++[(k:Int)]) i=pvt pl i:=fun i hi=>by rw[jK,if_pos (by rw[hB.len];exact hi)]
 have L:pvt (pl++[(k:Int)]) R.length=k:=by rw[jK,if_neg (by rw[hB.len];omega),if_pos hB.len.symm]
 refine⟨⟨hB.rows.app fun i hi=>?_,by simp[hB.len],fun i hi=>?_,fun i hi=>?_,fun i hi j A=>?_⟩,fun x=>?_⟩
 .obtain rfl:i=0:=by simp at hi;exact hi
  refine⟨Q,fun j=>?_⟩;show 0<=r.getD j 0/\r.getD j 0<q;rw[B];exact hO.lt.mul _ _
 .rw[aZ1,aZ2] at hi;by_cases e:i<R.length
  .refine⟨?_,by rw[E i e];exact(hB.lt i e).2⟩;have N:=(hB.lt i e).1;rw[aZ4,aY2 (by rw[hB.len];exact e),<-aZ4];exact N
  .obtain rfl:i=R.length:=by omega
   refine⟨?_,by rw[L];exact P⟩;rw[aZ4,List.getElem?_append_right (by rw[hB.len];omega),hB.len,Nat.sub_self];simp
 .rw[aZ1,aZ2] at hi;by_cases e:i<R.length
  .rw[E i e,gK e];exact hB.one i e
  .obtain rfl:i=R.length:=by omega
   rw[L,jH,B,hO.mul_comm];exact hO.mul_inv _ K (D k).2
 .rw[aZ1,aZ2] at hi;by_cases e:i<R.length
  .rw[E j (by omega),gK e];exact hB.low i e j A
  .obtain rfl:i=R.length:=by omega
   rw[E j A,jH,B,wH hO hB H _ zr j A,hO.mul_zero]
 .--the span
  let u:=O.inv (dL O R pl v R.length k)
  have g:0<=u/\u<q:=hO.inv_lt _;have W:O.mul (dL O R pl v R.length k) u=1:=hO.mul_inv _ K (D k).2;constructor
  .intro I;obtain⟨y,z,J,Z,Y⟩:=(qY hO _).1 I;obtain⟨b,hb⟩:=Z;have a:∀j,z j=O.mul (O.mul (b 0) 1) (r.getD j 0):=fun j=>by
    rw[hb j];have C:=hO.lt.mul (b 0) (r.getD j 0);show O.add 0 (O.mul (b 0) (r.getD j 0))=_;rw[hO.zero_add C.1 C.2,hO.mul_assoc,hO.one_mul (by rw[B];exact(hO.lt.mul _ _).1) (by rw[B];exact(hO.lt.mul _ _).2)]
   refine⟨_,O.mul (O.mul (b 0) 1) u,aV.add hO J (aV.smul hO (O.mul (O.mul (b 0) 1) u) F),hO.lt.mul _ _,fun j=>?_⟩;rw[Y j,a j,B j,G j,<-hO.mul_assoc,hO.mul_add,hO.add_comm (O.mul _ (v j)),<-hO.add_assoc]
  .rintro ⟨y,c,J,f,I⟩
   --c v=c red-c M,red=(red k) r
   refine(aV.snoc (r:=r) (O.mul c (dL O R pl v R.length k)) (aV.add hO J (aV.smul hO (O.neg c) F))).congr fun j=>?_;have h:=F.lt hO j;have U:O.mul (dL O R pl v R.length k) (r.getD j 0)=O.add (v j) (M j):=by rw[B j,<-hO.mul_assoc,W,hO.one_mul (D j).1 (D j).2,G j]
   rw[I j,hO.mul_assoc,U,hO.mul_add,hO.neg_mul,hO.add_assoc];congr 1;have C:=hO.lt.mul c (v j);rw[hO.add_comm (O.mul c (v j)),<-hO.add_assoc,hO.neg_add,hO.zero_add C.1 C.2]
end
def kF(O:aO)(gen:LL)(i:Nat)(T:List Nat):Prop:=∀x,aV O gen x->(∀j,j∈T->x j=0)->x i=0
theorem kF.mono{O:aO}{gen:LL}{i:Nat}{S T:List Nat}(h:kF O gen i S)(B:∀j,j∈S->j∈T):kF O gen i T:=fun x C D=>h x C fun j A=>D j (B j A)
section
variable {O:aO} {q:Int} (hO:O.Fld q) {n:Nat} {gen:LL}
include hO
theorem KL(T:List Nat):Rows q n (T.map fun t=>aQ n fun k=>if k=t then 1 else 0):=fun m hm=>by
 have C:=hO.lt;have B:(1:Int)<q:=hO.lt.pos;have A:m<T.length:=by simpa using hm
 have e:(T.map fun t=>aQ n fun k=>if k=t then 1 else 0).getD m []=aQ n fun k=>if k=T[m] then 1 else 0:=by simp[List.getD,A]
 rw[e];refine⟨aT _ _,fun i=>?_⟩;by_cases hi:i<n
 . rw[aS hi];split<;>omega
 . have : (aQ n fun k => if k = T[m] then (1 : Int) else 0).getD i 0 = 0 := by
     simp[List.getD,aY4 (show(aQ n fun k=>if k=T[m] then(1:Int) else 0).length<=i by rw[aT];omega)]
   rw[this];omega
theorem KK{T:List Nat}(hT:∀t,t∈T->t<n){x:Nat->Int}(A:dC O q (T.map fun t=>aQ n fun k=>if k=t then 1 else 0) n x):∀t,t∈T->x t=0:=fun t C=>by
 obtain⟨m,hm,rfl⟩:=List.getElem_of_mem C;have h:=A.1 m (by simpa using hm);have e:∀j,j<n->ent (T.map fun t=>aQ n fun k=>if k=t then 1 else 0) m j=if j=T[m] then 1 else 0:=fun j B=>by unfold ent;rw[show(T.map fun t=>aQ n fun k=>if k=t then(1:Int) else 0).getD m []=aQ n fun k=>if k=T[m] then 1 else 0 by simp[List.getD,hm]];exact aS B
 have D:=hT _ C;have F:=A.2.2 T[m];rw[aJ (g:=fun j=>if j=T[m] then x j else 0) fun j B=>by
  rw[e j B];split
  .exact hO.one_mul (A.2.2 j).1 (A.2.2 j).2
  .exact hO.zero_mul _,bP hO (k:=T[m]) (by rw[if_pos rfl];exact F) D fun j _ E=>if_neg E,if_pos rfl] at h
 exact h
theorem DK(T:List Nat){j:Nat}(C:j∉T){y:Nat->Int}(D:aV O (T.map fun t=>aQ n fun k=>if k=t then 1 else 0) y):y j=0:=by
 obtain⟨a,B⟩:=D;rw[B];refine bK hO fun m hm=>?_;have A:m<T.length:=by simpa using hm
 have e:ent (T.map fun t=>aQ n fun k=>if k=t then 1 else 0) m j=0:=by
  unfold ent;rw[show(T.map fun t=>aQ n fun k=>if k=t then(1:Int) else 0).getD m []=aQ n fun k=>if k=T[m] then 1 else 0 by simp[List.getD,A]];by_cases h:j<n
  .rw[aS h,if_neg];exact fun e=>C (e▸aY6 A)
  .simp[List.getD,aY4 (show(aQ n fun k=>if k=T[m] then(1:Int) else 0).length<=j by rw[aT];omega)]
 rw[e,hO.mul_zero]
theorem DG(hA:Rows q n gen){i:Nat}(hi:i<n){T:List Nat}(hT:∀t,t∈T->t<n)(L:i∉T):
  kF O gen i T↔∃h,dC O q gen n h/\h i=1/\∀j,j≠i->h j≠0->j∈T:=by
 have V:(1:Int)<q:=hO.lt.pos;constructor
 .intro F;have K:=KL hO (n:=n) T;have C:=(iZ hO hA).rows.app K;have S:aV O (cA O gen n++T.map fun t=>aQ n fun k=>if k=t then 1 else 0) fun j=>if j=i then 1 else 0:=by
   rw[<-CV hO C,fO hO (iZ hO C).rows];refine⟨fun m hm=>?_,fun j D=>if_neg (by omega),fun j=>by show 0<=(if j=i then(1:Int) else 0)/\(if j=i then(1:Int) else 0)<q;split<;>omega⟩;have hR:=(iZ hO C).rows.r (by omega:0<q);have R:aV O (cA O (cA O gen n++T.map fun t=>aQ n fun k=>if k=t then 1 else 0) n) (ent _ m):=aV.row hO hm (hR m);obtain⟨P,Q⟩:=SE.1 ((fO hO C _).1 R);have hg:aV O gen (ent (cA O (cA O gen n++T.map fun t=>aQ n fun k=>if k=t then 1 else 0) n) m):=(CV hO hA _).1 ((fO hO (iZ hO hA).rows _).2 P);have B:=F _ hg (KK hO hT Q);refine bK hO fun j D=>?_;by_cases e:j=i
   .rw[e,B,hO.zero_mul]
   .simp only[if_neg e];exact hO.mul_zero _
  obtain⟨y,z,U,E,I⟩:=(qY hO _).1 S;have A:=(fO hO hA _).1 U;refine⟨y,A,?_,fun j D B=>?_⟩
  .have h:=I i;simp only[if_true] at h;rw[DK hO T L E,hO.add_zero _ (A.2.2 i).1 (A.2.2 i).2] at h;exact h.symm
  .refine aY0 fun M=>B ?_;have h:=I j;simp only[if_neg D] at h;rw[DK hO T M E,hO.add_zero _ (A.2.2 j).1 (A.2.2 j).2] at h;exact h.symm
 .rintro ⟨h,A,J,F⟩ x G E;have H:=nX hO A.1 G;rw[bP hO (k:=i) (hO.lt.mul _ _) hi fun j D N=>by
   by_cases B:h j=0
   .rw[B,hO.mul_zero]
   .rw[E j (F j N B),hO.zero_mul],J,hO.mul_one _ (G.lt hO i).1 (G.lt hO i).2] at H
  exact H
end
end Go.Proofs.YtpfhoemohibniaaGreatDoor
