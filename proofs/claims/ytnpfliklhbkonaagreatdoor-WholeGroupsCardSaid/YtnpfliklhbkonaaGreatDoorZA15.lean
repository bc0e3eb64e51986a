/- Parts. -/
import Derived.Test.YtnpfliklhbkonaaGreatDoorZA13
set_option maxRecDepth 99999
set_option maxHeartbeats 0
set_option linter.unusedVariables false
namespace Go.Proofs.YtnpfliklhbkonaaGreatDoor
open Go.Proofs.Tryz
section
theorem FD{O:aQ}{q:Int}(hO:O.Fld q):∃x,dL q x/\iU O x (q.toNat-1)/\wD O q=(List.range (q.toNat-1)).map (bI O x):=by
 obtain⟨x,D,H⟩:=ja hO;have hq:=hO.lt.pos;have L:=Y7 hO D H om;have G:nG O q x=true:=by
  unfold nG kK;rw[L,aY7,List.length_range,aY9];refine⟨by rw[eD];omega,?_⟩;rw[eD];have e:((List.range (q.toNat-1)).map (bI O x)).getD (q-2).toNat 0=bI O x (q-2).toNat:=by
   have:(q-2).toNat<q.toNat-1:=om;simp[List.getD,this]
  rw[e];have C:=H.2.1;rw[show q.toNat-1=(q-2).toNat+1 from om] at C;exact C
 have F:∀y,nG O q y=true->kK O q y≠[]:=fun y A e=>by unfold nG at A;rw[e,aY9] at A;have:=A.1;rw[eD] at this;simp at this;omega
 have B:wD O q≠[]:=J0 _ _ ⟨x,oA D.1,oA D.2,G,F x G⟩ F;obtain⟨y,a,b,c,d⟩:=zJ _ _ B;have A:dL q y:=⟨om,om⟩
 unfold nG at c;rw[aY9,eD,eD] at c;obtain⟨M,E⟩:=c;have N:(kK O q y).length=jW O y q.toNat 1:=by unfold kK;rw[aY7,List.length_range]
 have K:jW O y q.toNat 1=q.toNat-1:=om;have e:(kK O q y).getD (q-2).toNat 0=bI O y (q-2).toNat:=by
  unfold kK;have:(q-2).toNat<jW O y q.toNat 1:=om;simp[List.getD,this]
 rw[e] at E;refine⟨y,A,⟨om,?_,fun j B C I=>?_⟩,?_⟩
 .rw[show q.toNat-1=(q-2).toNat+1 from om];exact E
 .have J:=sC O y q.toNat 1 j B om;exact(gW J).2 0 om I.symm
 .show vZ O q _ 1=_;rw[d];unfold kK;rw[K]
section
variable {P M:Int} {Mq:LI}
theorem IC(A:aF P M≠0)(B:sL P M Mq)(x y:Int):Cg P (dg P M (bM P M Mq x y)) (gN (fn Mq) M.toNat (dg P M x) (dg P M y)):=fun i=>by
 obtain⟨D,_,C,_,_,_⟩:=bO A;by_cases hi:i<M.toNat
 .rw[jN A B x y hi,Int.emod_emod_of_dvd _ (Int.dvd_refl P)]
 .rw[dV P M _ i om,DG (fn Mq) M.toNat (dV P M x) _ i om]
theorem M7(A:aF P M≠0)(B:sL P M Mq)(x y z:Int):bM P M Mq (bM P M Mq x y) z=bM P M Mq x (bM P M Mq y z):=by refine lB A (pF A Mq _ _) (pF A Mq _ _) fun i hi=>?_;rw[jN A B _ _ hi,jN A B _ _ hi];have C:=yK (fn Mq) M.toNat (IC A B x y) (fun k=>(rfl:dg P M z k%P=dg P M z k%P)) i;have D:=yK (fn Mq) M.toNat (Cg.refl P (dg P M x)) (IC A B y z) i;rw[C,D,DF _ _ (dV P M x) (dV P M y) (dV P M z)]
theorem KO(A:aF P M≠0)(E:sL P M Mq){x:Int}(B:0<=x)(C:x<aF P M):bM P M Mq x 1=x:=by obtain⟨D,_,F,_,_,_⟩:=bO A;exact lB A (pF A Mq x 1) ⟨B,C⟩ fun i hi=>by rw[jN A E x 1 hi,MG A,KP _ _ om,CE D]
theorem pJ(A:aF P M≠0)(x:Int):∀k,0<=bI (aD P M Mq) x k/\bI (aD P M Mq) x k<aF P M
 |0=>⟨by show(0:Int)<=1;omega,dB A⟩
 |k+1=>pF A Mq _ _
theorem KY(A:aF P M≠0)(B:sL P M Mq)(x:Int)(a:Nat):∀b,bI (aD P M Mq) x (a+b)=bM P M Mq (bI (aD P M Mq) x a) (bI (aD P M Mq) x b)
 |0=>(KO A B (pJ A x a).1 (pJ A x a).2).symm
 |b+1=>by show bM P M Mq (bI (aD P M Mq) x (a+b)) x=bM P M Mq _ (bM P M Mq _ x);rw[KY A B x a b,M7 A B]
theorem K0{l g:Nat->Int}{N d:Nat}(J:1<=d)(hk:Cg P (fun j=>bD g d l N (aN 0) j+tP g d N (aN 0) j) fG)(a:Nat->Int)(I:Sup N a)(H:0<N):∀k,Cg P (bD g d (tP l N k a) N (aN 0)) (tP g d k (bD g d a N (aN 0)))
 |0=>Cg.refl _ _
 |k+1=>by
  refine Cg.trans ?_ ((K0 J hk a I H k).lin (wT g d));obtain⟨v,K⟩:=xE (tP l N k a);show Cg P (bD g d (tX l N (tP l N k a)) N (aN 0)) (tX g d (bD g d (tP l N k a) N (aN 0)));rw[<-K];obtain⟨e,rfl⟩:∃e,N=e+1:=⟨N-1,om⟩
  intro j;have A:bD g d (tX l (e+1) v) (e+1) (aN 0) j=bD g d (fun i=>if i=0 then 0 else v (i-1)) (e+1) (aN 0) j-v e*bD g d l (e+1) (aN 0) j:=by
   have:∀i,i<e+1->tX l (e+1) v i*tP g d i (aN 0) j=(if i=0 then 0 else v (i-1))*tP g d i (aN 0) j+(-v e)*(l i*tP g d i (aN 0) j):=fun i hi=>by unfold tX;rw[iP hi,show e+1-1=e from om,Int.sub_mul,Int.neg_mul,aY8];rfl
   show bJ (fun i=>tX l (e+1) v i*tP g d i (aN 0) j) (e+1)=bJ _ (e+1)-v e*bJ _ (e+1);rw[bF this,jX,<-gO,Int.neg_mul];rfl
  have C:tX g d (bD g d v (e+1) (aN 0)) j=bJ (fun i=>v i*tP g d (i+1) (aN 0) j) (e+1):=congrFun ((wT g d).sum v (fun i=>tP g d i (aN 0)) (e+1)) j;have D:bD g d (fun i=>if i=0 then 0 else v (i-1)) (e+1) (aN 0) j=bJ (fun i=>v i*tP g d (i+1) (aN 0) j) e:=by show bJ (fun i=>(if i=0 then 0 else v (i-1))*tP g d i (aN 0) j) (e+1)=_;rw[sD,iP rfl,Int.zero_mul,Int.zero_add];exact bF fun i _=>by rw[iN om,show i+1-1=i from om]
  have h:=hk j;dsimp only at h;have F:(bD g d l (e+1) (aN 0) j+tP g d (e+1) (aN 0) j)%P=0:=by rw[h];exact Int.zero_emod P
  obtain⟨t,L⟩:=Int.dvd_of_emod_eq_zero F;rw[A,C,D,bJ];generalize bJ (fun i=>v i*tP g d (i+1) (aN 0) j) e=S;generalize bD g d l (e+1) (aN 0) j=G at*;have E:G=P*t-tP g d (e+1) (aN 0) j:=om;generalize tP g d (e+1) (aN 0) j=B at*;rw[E,Int.mul_sub,show S-(v e*(P*t)-v e*B)=(S+v e*B)+P*(-(v e*t)) by rw[Int.mul_neg,show P*(v e*t)=v e*(P*t) by rw[<-aY8,Int.mul_comm P,aY8]];omega];exact Int.add_mul_emod_self_left _ _ _
theorem TJ{l g:Nat->Int}{N d:Nat}(D:1<=d)(hk:Cg P (fun j=>bD g d l N (aN 0) j+tP g d N (aN 0) j) fG){a:Nat->Int}(C:Sup N a)(B:0<N)(b:Nat->Int):Cg P (bD g d (gN l N a b) N (aN 0)) (bD g d b N (bD g d a N (aN 0))):=by
 have e:bD g d (gN l N a b) N (aN 0)=fun j=>bJ (fun k=>b k*bD g d (tP l N k a) N (aN 0) j) N:=by
  funext j;show bJ (fun i=>bJ (fun k=>b k*tP l N k a i) N*tP g d i (aN 0) j) N=bJ (fun k=>b k*bJ (fun i=>tP l N k a i*tP g d i (aN 0) j) N) N;have A:bJ (fun i=>bJ (fun k=>b k*tP l N k a i) N*tP g d i (aN 0) j) N=bJ (fun i=>bJ (fun k=>b k*(tP l N k a i*tP g d i (aN 0) j)) N) N:=
   bF fun i _=>by rw[Int.mul_comm,gO];exact bF fun k _=>by rw[Int.mul_comm (tP g d i (aN 0) j),aY8]
  rw[A,uV];exact bF fun k _=>(gO _ _ _).symm
 rw[e];exact Cg.sum (v:=fun k=>bD g d (tP l N k a) N (aN 0)) (u:=fun k=>tP g d k (bD g d a N (aN 0))) (fun _ _=>rfl) fun k _=>K0 D hk a C B k
theorem J1(μ:nY P M Mq)(Y:¬cZ P M Mq):wD (aD P M Mq) (aF P M)=[]:=by
 obtain⟨A,Z,D⟩:=μ;obtain⟨X,τ,ρ,σ,_,ω⟩:=bO A;have δ:M≠1/\xZ P Mq=false:=by
  by_cases h:M=1
  .exact aB ⟨A,Z,D,fun I=>aB h I⟩ Y
  .refine⟨h,?_⟩;rw[<-Bool.not_eq_true];exact fun I=>Y ⟨A,Z,D,fun _=>I⟩
 obtain⟨η,R⟩:=δ;obtain⟨ψ,ι⟩:=D.2 η;have s:Mq.length=M.toNat:=om
 --a divisor
 unfold xZ sJ at R;rw[List.all_eq_false] at R;obtain⟨e,t,hn⟩:=R;rw[List.mem_range] at t;simp only[Bool.not_eq_true] at hn;unfold oP at hn;rw[List.all_eq_false] at hn;obtain⟨v,Aa,O⟩:=hn;simp only[Bool.not_eq_true,Bool.not_eq_false'] at O;obtain⟨g,Q⟩:=xE (bU v P (e+1));rw[<-Q] at O;have u:g.length=e+1:=by rw[Q,eP]
 have w:Rng P g:=fun k=>by rw[Q];exact iI X k
 have hR:Rng P Mq:=fun k=>by
  by_cases hk:k<Mq
  .exact ι k hk
  .rw[bG om];omega
 have hk:=(AF X om hR om).1 O;rw[u,s] at hk;refine aY0 fun T=>?_;obtain⟨y,a,b,c,d⟩:=zJ _ _ T;have hq:=dB A;unfold nG at c;rw[aY9,eD,eD] at c;obtain⟨ξ,V⟩:=c;have χ:(kK (aD P M Mq) (aF P M) y).length=jW (aD P M Mq) y (aF P M).toNat 1:=by unfold kK;rw[aY7,List.length_range]
 have o:(kK (aD P M Mq) (aF P M) y).getD (aF P M-2).toNat 0=bI (aD P M Mq) y (aF P M-2).toNat:=by
  unfold kK;have:(aF P M-2).toNat<jW (aD P M Mq) y (aF P M).toNat 1:=om;simp[List.getD,this]
 rw[o] at V;have κ:bI (aD P M Mq) y ((aF P M).toNat-1)=1:=by rw[show(aF P M).toNat-1=(aF P M-2).toNat+1 from om];exact V
 have H:∀j,1<=j->j<(aF P M).toNat-1->mX (aD P M Mq) y j=false:=fun j E B=>sC (aD P M Mq) y (aF P M).toNat 1 j E om
 --the divisor as an element
 have f:∀i,i<(aT M.toNat fun i=>if i<e+1 then g i 0 else if i=e+1 then 1 else 0).length->0<=(aT M.toNat fun i=>if i<e+1 then g i 0 else if i=e+1 then 1 else 0).getD i 0/\(aT M.toNat fun i=>if i<e+1 then g i 0 else if i=e+1 then 1 else 0).getD i 0<P:=fun i hi=>by
  rw[aW] at hi;rw[aK hi];split
  .exact w i
  .split<;>omega
 obtain⟨G,W⟩:=xE (bL P (aT M.toNat fun i=>if i<e+1 then g i 0 else if i=e+1 then 1 else 0));have r:=mZ A (aW _ _) f;rw[<-W] at r;have K:dg P M G=fun i=>if i<e+1 then g i 0 else if i=e+1 then 1 else 0:=by
  funext i;by_cases hi:i<M.toNat
  .rw[W,xH A (aW _ _) f hi,aK hi]
  .rw[dV P M G i om,iN om,iN om]
 have π:G≠0:=fun h=>by have:=congrFun K (e+1);rw[h,oZ A] at this;rw[iN om,iP rfl] at this;cases this
 --it is a power of y
 have x:∀i j:Nat,i<(aF P M).toNat-1->j<(aF P M).toNat-1->(bI (aD P M Mq) y i).toNat-1=(bI (aD P M Mq) y j).toNat-1->i=j:=by
  have m:∀i,i<(aF P M).toNat-1->bI (aD P M Mq) y i≠0:=fun i hi=>by
   by_cases J:i=0
   .rw[J];show(1:Int)≠0;decide
   .exact(gW (H i om hi)).1
  intro i j hi S h;have U:=pJ (Mq:=Mq) A y i;have ν:=pJ (Mq:=Mq) A y j;have Ab:=m i hi;have Ac:=m j S;have B:bI (aD P M Mq) y i=bI (aD P M Mq) y j:=om;rcases Nat.lt_trichotomy i j with C|C|C
  .exact aB B ((gW (H j om S)).2 i C)
  .exact C
  .exact aB B.symm ((gW (H i om hi)).2 j C)
 obtain⟨k,ε,φ⟩:=mO ((aF P M).toNat-1) (fun i=>(bI (aD P M Mq) y i).toNat-1) (fun i hi=>by have U:=pJ (Mq:=Mq) A y i;omega) x (G.toNat-1) om;have ζ:bI (aD P M Mq) y k=G:=by
  have U:=pJ (Mq:=Mq) A y k;have:bI (aD P M Mq) y k≠0:=by
   by_cases J:k=0
   .rw[J];show(1:Int)≠0;decide
   .exact(gW (H k om ε)).1
  omega
 have z:bM P M Mq G (bI (aD P M Mq) y ((aF P M).toNat-1-k))=1:=by rw[<-ζ,<-KY A D,show k+((aF P M).toNat-1-k)=(aF P M).toNat-1 from om,κ]
 --pushed down
 have E := IC A D G (bI (aD P M Mq) y ((aF P M).toNat - 1 - k));rw [z, MG A] at E;have B := (E.lin (L := fun a => bD (fn g) (e + 1) a M.toNat (aN 0)) ⟨fun a b => funext fun j => by
  show bJ (fun i=>(a i+b i)*_) _=bJ (fun i=>a i*_) _+bJ (fun i=>b i*_) _;rw[<-jX];exact bF fun i _=>Int.add_mul _ _ _,fun c a=>funext fun j=>by
  show bJ (fun i=>(c*a i)*_) _=c*bJ (fun i=>a i*_) _;rw[gO];exact bF fun i _=>aY8 _ _ _⟩).trans (TJ om hk (dV P M G) om _)
 have p:bD (fn g) (e+1) (dg P M G) M.toNat (aN 0)=fG:=by have θ:=vI (l:=fn g) (N:=e+1) om (b:=aN 0) (uE _ om) (fun j S=>bG om);rw[<-θ];funext j;show bJ (fun i=>dg P M G i*tP (fn g) (e+1) i (aN 0) j) M.toNat=_;rw[D8 (n:=e+2) om fun i a b=>by rw[K];dsimp only;rw[iN om,iN om,Int.zero_mul],bJ,K];dsimp only;rw[iN om,iP rfl,Int.one_mul,Int.add_comm];congr 1;exact bF fun i hi=>by rw[iP hi];rfl
 rw[p] at B;have F:=B 0;rw[show bD (fn g) (e+1) (dg P M (bI (aD P M Mq) y ((aF P M).toNat-1-k))) M.toNat fG=fun _=>0 from(qB _ _ _ _).zero] at F;have q:bD (fn g) (e+1) (aN 0) M.toNat (aN 0) 0=1:=by show bJ (fun i=>aN 0 i*tP (fn g) (e+1) i (aN 0) 0) M.toNat=1;rw[gI (k:=0) om fun i _ T=>by unfold aN;rw[iN T,Int.zero_mul]];rfl
 rw[q] at F;rw[Int.emod_eq_of_lt om om,Int.zero_emod] at F;cases F
end
end
section
open Go.RowKit
def qU(O:aQ)(x:Int)(q k:Nat):List Bool:=(List.range q).map fun i:Nat=>((List.range k).map (bI O x)).contains (i:Int)
theorem uS(O:aQ)(x:Int)(q k:Nat):(qU O x q k).length=q:=by simp[qU]
theorem wR{O:aQ}{x:Int}{q k i:Nat}(h:i<q):(qU O x q k)[i]?=some (((List.range k).map (bI O x)).contains (i:Int)):=by unfold qU;rw[List.getElem?_map,List.getElem?_range h];rfl
theorem F9{O:aQ}{x:Int}{q k i:Nat}(hi:i<q)(h:bI O x k=i):(qU O x q k).set i true=qU O x q (k+1):=by
 apply List.ext_getElem?;intro j;by_cases C:j<q
 .rw[wR C];by_cases e:i=j
  .subst e;rw[List.getElem?_set_self (by rw[uS];exact hi)];congr 1;rw[eq_comm,List.contains_iff_mem];exact List.mem_map.2 ⟨k,List.mem_range.2 om,h⟩
  .rw[List.getElem?_set_ne e,wR C];congr 1;rw[Bool.eq_iff_iff,List.contains_iff_mem,List.contains_iff_mem,List.mem_map,List.mem_map];constructor
   .rintro⟨a,B,A⟩;exact⟨a,List.mem_range.2 (oA (List.mem_range.1 B)),A⟩
   .rintro⟨a,B,A⟩;have:=List.mem_range.1 B;refine⟨a,List.mem_range.2 ?_,A⟩;have:a≠k:=fun D=>by rw[D,h] at A;exact e om
    omega
 .rw[aY4 (by simp[uS];omega),aY4 (by rw[uS];omega)]
theorem jm:∀(k n:Nat) (f:Nat->Nat),(∀i,i<k->f i<n)->(∀i j,i<k->j<k->f i=f j->i=j)->k<=n:=by
 intro k n f A B;refine Nat.le_of_not_lt fun C=>?_
 --extend f to n numbers
 obtain⟨i,hi,D⟩:=mO n f (fun i hi=>A i om) (fun i j hi E=>B i j om om) (f n) (A n C);have:=B i n om C D;omega
theorem SO{P M:Int}{Mq:LI}(A:aF P M≠0)(B:sL P M Mq)(x y:Int):bM P M Mq x y=bM P M Mq y x:=
 lB A (pF A Mq x y) (pF A Mq y x) fun i hi=>by rw[jN A B x y hi,jN A B y x hi,jF _ _ (dV P M x) (dV P M y)]
def PO:Va->Nat
 | .slice _ n _=>n
 |_=>0
theorem jz{O:aQ}{x:Int}{q k:Nat}(G:1<=k)(A:∀j,0<=bI O x j/\bI O x j<(q:Int))(B:∀j,1<=j->j<k->mX O x j=false):k<=q-1:=by
 have C:∀i,i<k->bI O x i≠0:=fun i hi=>by
  by_cases F:i=0
  .rw[F];show(1:Int)≠0;decide
  .exact(gW (B i om hi)).1
 refine jm k (q-1) (fun i=>(bI O x i).toNat-1) (fun i hi=>?_) fun i j hi E e=>?_
 .have:=C i hi;have:=A i;omega
 .have a:=C i hi;have b:=C j E;have c:=A i;have d:=A j;have D:bI O x i=bI O x j:=om;rcases Nat.lt_trichotomy i j with h|h|h
  .exact aB D ((gW (B j om E)).2 i h)
  .exact h
  .exact aB D.symm ((gW (B i om hi)).2 j h)
theorem PP{O:aQ}{x:Int}{q k:Nat}(A:1<=k)(hk:k<=q)(E:∀j,1<=j->j<k->mX O x j=false)(D:mX O x k=true):jW O x q 1=k:=by
 have key:∀f m,1<=m->m<=k->k<m+f->jW O x f m=k:=by
  intro f
  induction f with
  |zero=>intro m _ B C;omega
  |succ f ih=>
   intro m A B C;rw[jW];by_cases e:m=k
   .subst e;rw[iP D]
   .rw[iN (by rw[E m A om];decide)];exact ih (m+1) om om om
 exact key q 1 zr A om
theorem NH(w:Wo)(P M x:Int)(mv:Va)(Mq:LI)(h:SI w mv Mq)(i:nY P M Mq)(Az:1<=x)(u:x<aF P M):
 Calls prog 101 #[.agg #[P,M,mv],.int .i64 (aF P M),x] w (sN w (kK (aD P M Mq) (aF P M) x)):=by
 have Ab:=zh h;clear h;have K:=zh i;have Ap:=dB i.1;have Aq:=aM P M;have Y:=zh (fun k=>pJ (Mq:=Mq) i.1 x k);obtain⟨q,hq⟩:∃q:Nat,aF P M=(q:Int):=⟨(aF P M).toNat,om⟩
 obtain⟨O,hO⟩:=xE (aD P M Mq);rw[<-hO] at Y|-;rw[hq] at Y u Ap Aq|-;have p:=zh hq;have X:=zh hO;clear hq hO i;have Ao:1<q:=om;have Ay:q<=256:=om;have An:=fun(w:Wo)=>PN q om w;have ω:=zh (dM.mk' w P M mv);obtain⟨D,N⟩:=xE ((w.alloc (.cells #[P,M,mv] 24)).alloc (.cells #[.int .i64 1] 3));have l:D.heap.size=w.heap.size+1+1:=by rw[N,World.size_alloc,World.size_alloc]
 have R:=zh (RB.made D q);have z:Hid (dM w (D.alloc (.cells (madeCells #[.bool false] q) 4)) P M mv):=by rw[N];exact(ω.on (aH _ _)).on (aH _ _)
 have ε:Hid (OI (w.heap.size+1) (D.alloc (.cells (madeCells #[.bool false] q) 4)) (.slice (some ⟨w.heap.size+1,0,none⟩) 1 1) [1]):=by have L:=OI.lit (B:=w.heap.size+1) (w.alloc (.cells #[P,M,mv] 24)) [1] (by rw[World.size_alloc];omega) sM;rw[World.size_alloc] at L;rw[N];exact L.alloc _
 have ν:(D.alloc (.cells (madeCells #[.bool false] q) 4)).cell? ⟨w.heap.size+1+1,1,none⟩=some (.bool false):=by have:=R.cell 1 (by simp;omega);rw[l] at this;rw[this];simp[List.getD,Ao]
 have ξ:(D.alloc (.cells (madeCells #[.bool false] q) 4)).frozen? ⟨w.heap.size+1+1,1,none⟩=false:=by have:=R.frozen 1;rw[l] at this;exact this
 rw[N] at ν ξ;have Ai:=zh N;have θ:=zh l;clear N l;go_enter func101,ntmps101;go_wp2_with fail;clear An ν ξ;rw[<-Ai.out];obtain⟨S,T⟩:=xE (w.heap.size+1+1);have ι:w<S:=om;rw[<-T];rw[θ.out,<-T] at R;have r:Hid (RB ((D.alloc (.cells (madeCells #[.bool false] q) 4)).setCell (S 1 none) (.bool true)) S (qU O x q 1)):=by
  have Ak:qU O x q 0=List.replicate q false:=by simp[qU,List.map_const']
  have:=R.set 1 true;rw[<-Ak,F9 (k:=0) om rfl] at this;exact this
 have F:Hid (dM w ((D.alloc (.cells (madeCells #[.bool false] q) 4)).setCell (S 1 none) (.bool true)) P M mv):=z.far ι _;have Q:Hid (OI (w.heap.size+1) ((D.alloc (.cells (madeCells #[.bool false] q) 4)).setCell (S 1 none) (.bool true)) (.slice (some ⟨w.heap.size+1,0,none⟩) 1 1) ((List.range 1).map (bI O x))):=
  ε.grown (aU _ S 1 _) fun g G e=>by have L:=aZ0 e;simp[Value.ownBlock] at G;omega
 have ζ:Hid (x=bI O x 1):=by show x=O.mul 1 x;rw[X.out];show x=bM P M Mq 1 x;rw[SO K.out.1 K.out.2.2,KO K.out.1 K.out.2.2 om (p.out▸u)]
 clear R z ε;have κ:(D.alloc (.cells (madeCells #[.bool false] q) 4)).setCell (S 1 none) (.bool true)=D.alloc (.cells ((madeCells #[.bool false] q).setIfInBounds 1 (.bool true)) 4):=by exact World.setCell_alloc_at _ _ _ _ _ (T.trans θ.symm)
 rw[κ] at r F Q;clear κ;have Av:=zh T;clear T;go_loopw [7,9] (fun out y wr=>∃(k:Nat) (A:OA) (c:Nat) (E:Int),1<=k/\out=.slice A k c/\y=(E:aV)/\Hid (E=bI O x k)/\Hid (OI (w.heap.size+1) wr (.slice A k c) ((List.range k).map (bI O x)))/\Hid (RB wr S (qU O x q k))/\Hid (∀j,1<=j->j<k->mX O x j=false)/\Hid (dM w wr P M mv)) (fun out _ _=>q-PO out)
 .exact⟨1,_,_,x,zr,rfl,rfl,ζ,Q,r,aG fun j L Al=>om,F⟩
 .
  clear r F Q ζ;obtain⟨k,A,c,E,t,rfl,rfl,H,W,Z,a,n⟩:=hrel;have Au:0<=E/\E<(q:Int):=by rw[H.out];exact Y.out k
  have Ax:=jz t Y.out a.out;obtain⟨Ar,As⟩:=Au;by_cases U:E=0
  .have μ:(E !=0)=false:=by rw[eB];exact U
   have o:Hid (kK O (q:Int) x=(List.range k).map (bI O x)):=by show _=_;unfold kK;rw[aZ8,PP t om a.out (D7 (.inl (H.out▸U)))]
   clear U;go_wp2;go_ret;exact⟨_,rfl,by rw[o.out];exact W.mono om,n.bel⟩
  .have μ:(E !=0)=true:=by rw[eC];exact U
   obtain⟨C,At⟩:∃C:Nat,E=(C:Int):=⟨E.toNat,om⟩
   subst At;have v:C<q:=om;have s:=Z.cell C (by rw[uS];exact v);have Aw:=Z.frozen C;have σ:(qU O x q k).getD C false=((List.range k).map (bI O x)).contains (C:Int):=by rw[aZ4,wR v];rfl
   rw[σ] at s;clear σ U;by_cases I:((List.range k).map (bI O x)).contains (C:Int)=true
   .rw[I] at s;have o:Hid (kK O (q:Int) x=(List.range k).map (bI O x)):=by
     show _=_;unfold kK;rw[aZ8,PP t om a.out (by unfold mX;rw[<-H.out,I,Bool.or_true])]
    clear I;go_wp2;go_ret;exact⟨_,rfl,by rw[o.out];exact W.mono om,n.bel⟩
   .rw[Bool.not_eq_true] at I;rw[I] at s;have Ah:Hid (∀j,1<=j->j<k+1->mX O x j=false):=aG fun j L Al=>by
     by_cases e:j=k
     .subst e;unfold mX;rw[<-H.out,I,Bool.or_false,eA];have:=eC.1 μ;exact this
     .exact a.out j L om
    clear I;have η:Hid (RB (wr.setCell ⟨S,C,none⟩ (.bool true)) S (qU O x q (k+1))):=by have:=Z.set C true;rw[F9 v H.out.symm] at this;exact this
    have Ae:Hid (OI (w.heap.size+1) (wr.setCell ⟨S,C,none⟩ (.bool true)) (.slice A k c) ((List.range k).map (bI O x))):=
     W.grown (aU wr S C _) fun g G e=>W.ne_blk Z.out dC (by rw[G,e])
    have V:=zh (n.far (k:=C) ι (.bool true));have ρ:=V.lt;have J:=zh (EY.mk' (w0:=w) Ae V.bel ρ (C:Int));have φ:Hid ((List.range k).map (bI O x)++[(C:Int)]=(List.range (k+1)).map (bI O x)):=by show _=_;rw[List.range_succ,List.map_append,H.out];rfl
    have Am:((List.range k).map (bI O x)).length+1<=17592186044416:=by simp;omega
    have ψ:Hid (((wr.setCell ⟨S,C,none⟩ (.bool true)).alloc (.cells #[C] 3)).cell? wr.heap.size=some (C:aV)):=by have:=J.box;rw[show(wr.setCell ⟨S,C,none⟩ (.bool true)).heap.size=wr.heap.size by simp[World.setCell]] at this;exact this
    have π:((List.range k).map (bI O x)++[(C:Int)]).length=k+1:=by simp
    have δ:=zh π;clear ρ π;go_wp2_with (at_builtin;go_must (refine sH rfl _ _ rfl (w.heap.size+1) _ ((List.range k).map (bI O x)) rfl J.own wr 1 (C:Int) rfl ψ Am J.up ?_);(intro Ba w2 f G);obtain⟨τ,Aj,rfl⟩:=f.form';rw[δ.out,φ.out] at f;rw[δ.out];have Q:=zh f;have χ:=zh (J.below om G);have Af:Hid (RB w2 S (qU O x q (k+1))):=aG (RB.grown (η.alloc _) G (fun e=>J.own.ne_blk (η.alloc _) dC e.symm));have F:Hid (dM w w2 P M mv):=aG ⟨Blk.grown (V.blk.alloc _) G (fun e=>J.own.ne_blk (V.blk.alloc _) dC e.symm),χ.out⟩;clear f G;have c0:=F.c0;have c1:=F.c1;have c2:=F.c2)
    have d:0<=(C:Int)/\(C:Int)<aF P M:=⟨Ar,p.out▸As⟩
    have m:0<=x/\x<aF P M:=⟨om,p.out▸u⟩
    apply(yM _ P M C x mv Mq (Ab.below F.bel zr) K d.1 d.2 m.1 m.2).mono;rintro e Bb⟨rfl,b⟩;have Ac:Hid (IB P M Mq C x=bI O x (k+1)):=by show _=O.mul (bI O x k) x;rw[O8 K.out d m,X.out,<-X.out,<-H.out,X.out];rfl
    have Aa:=zh (F.on b);have Ag:=zh (Af.belowS b);have Ad:=zh (Q.below b zr);clear b d m c0 c1 c2;go_wp2;exact⟨⟨k+1,τ,Aj,_,om,rfl,rfl,Ac,Ad,Ag,Ah,Aa⟩,by simp only[PO];omega⟩
theorem X8{P M x:Int}{Mq:LI}(A:aF P M≠0)(k:Nat):0<=(kK (aD P M Mq) (aF P M) x).getD k 0/\(kK (aD P M Mq) (aF P M) x).getD k 0<aF P M:=by
 unfold kK;by_cases h:k<jW (aD P M Mq) x (aF P M).toNat 1
 .have:((List.range (jW (aD P M Mq) x (aF P M).toNat 1)).map (bI (aD P M Mq) x)).getD k 0=bI (aD P M Mq) x k:=by simp[List.getD,h]
  rw[this];exact pJ A x k
 .rw[bG (by simp;omega)];have:=dB A;omega
theorem KV{P M x:Int}{Mq:LI}:(kK (aD P M Mq) (aF P M) x).length<=(aF P M).toNat+1:=by
 unfold kK;rw[aY7,List.length_range];have key:∀f k,jW (aD P M Mq) x f k<=k+f:=by
  intro f
  induction f with
  |zero=>intro k;rw[jW];omega
  |succ f ih=>
   intro k;rw[jW];split
   .omega
   .have:=ih (k+1);omega
 have:=key (aF P M).toNat 1;omega
def kq(w:Wo)(xs:LI)(e:Ending)(w':Wo):Prop:=∃u,e=.returned u/\OI w w' u xs/\(xs=[]->u=.slice none 0 0)/\Below w w w'
theorem pU(w:Wo)(P M:Int)(mv:Va)(Mq:LI)(h:SI w mv Mq)(G:nY P M Mq):
 Calls prog 50 #[.agg #[P,M,mv],.int .i64 (aF P M)] w (kq w (wD (aD P M Mq) (aF P M))):=by
 have Z:=zh h;clear h;have Aa:=zh G;have τ:=dB G.1;have φ:=aM P M;obtain⟨q,hq⟩:∃q:Nat,aF P M=(q:Int):=⟨(aF P M).toNat,om⟩
 have U:=zh (fun w' (C:Below w w w') x (ν:1<=x) (ξ:x<aF P M)=>NH w' P M x mv Mq (Z.below C zr) G ν ξ);have V:=zh (fun x k=>X8 (P:=P) (M:=M) (x:=x) (Mq:=Mq) G.1 k);have T:=zh (fun x=>KV (P:=P) (M:=M) (x:=x) (Mq:=Mq));have i:=zh (fun w' (C:Below w w w') y x (a:0<=y) (b:y<aF P M) (c:0<=x) (d:x<aF P M)=>yM w' P M y x mv Mq (Z.below C zr) G a b c d);have f:=zh (fun y x (a:0<=y/\y<aF P M) (b:0<=x/\x<aF P M)=>O8 G a b);rw[hq] at U V T i f τ φ|-;clear hq G;obtain⟨O,hO⟩:=xE (aD P M Mq);rw[<-hO] at U V T|-;have η:=zh hO;clear hO;have Ai:q<=256:=om;have Ah:1<q:=om;have S:=zh (dM.mk' w P M mv);go_enter func50,ntmps50;go_wp2_with fail;obtain⟨w0,u⟩:=xE (w.alloc (.cells #[P,M,mv] 24));rw[<-u] at S|-;clear u;have Y:Hid (wD O (q:Int)=vZ O (q:Int) (q-1) ((1:Nat):Int)):=by show _=_;unfold wD;rw[show((q:Int)-1).toNat=q-1 from om];rfl
 go_loopw [5] (fun x wr=>∃k:Nat,1<=k/\k<=q/\x=(k:aV)/\Hid (wD O (q:Int)=vZ O (q:Int) (q-k) (k:Int))/\Hid (dM w wr P M mv)) (fun x _=>(q-intOf x).toNat)
 .exact⟨1,zr,om,rfl,Y,S⟩
 .
  clear Y S;obtain⟨k,Ae,Af,rfl,N,E⟩:=hrel;have c0:=E.c0;have c1:=E.c1;have c2:=E.c2;by_cases Ag:k<q
  .go_wp2_with fail;apply(U _ E.bel (k:Int) om om).mono;rintro e w1⟨Al,rfl,t,π⟩;have Q:=zh t;clear t;have H:=zh (E.on π);have Aj:IntKind.i64.wrap ((q:Int)-1)=(q:Int)-1:=IntWalk.i64_in _ om;have z:IntKind.i64.wrap ((q:Int)-2)=(q:Int)-2:=IntWalk.i64_in _ om;have ρ:=T.out (k:Int);obtain⟨n,hn⟩:∃n,(kK O (q:Int) (k:Int)).length=n:=⟨_,rfl⟩
   rw[hn] at ρ;have B:=zh hn;clear hn;have l:=H.c0;have m:=H.c1;have o:=H.c2;clear c0 c1 c2;by_cases R:(n:Int)=(q:Int)-1
   .have C:((n:Int)==(q:Int)-1)=true:=by rw[eD];exact R
    obtain rfl:n=q-1:=om;have Ak:IntKind.i64.wrap ((q:Int)-2)=((q-2:Nat):Int):=by rw[z];omega
    clear z;obtain⟨g,c,rfl,Ab,Ac⟩:=Q.form (oA B.out);have δ:=Q.cell (q-2) (oA B.out);have X:=V.out (k:Int) (q-2);have F:Hid (nG O (q:Int) (k:Int)=((((q-1:Nat):Int)==(q:Int)-1)&&(IB P M Mq ((kK O (q:Int) (k:Int)).getD (q-2) 0) (k:Int)==1))):=by show _=_;rw[f.out _ _ X ⟨om,om⟩];unfold nG;rw[B.out,show((q:Int)-2).toNat=q-2 from om,η.out];rfl
    rw[B.out];generalize hv:(kK O (q:Int) (k:Int)).getD (q-2) 0=v at δ X F;have θ:=zh hv;clear hv;obtain⟨χ,ψ⟩:=X;have Ad:q-2<q-1:=om;rw[C,Bool.true_and] at F;generalize hmv:IB P M Mq v (k:Int)=ω at F;have ζ:=zh hmv;clear hmv;clear R;go_wp2_with fail;refine td 16 l m o δ fun D=>?_;refine tq 0 ?_;refine tq 1 ?_;refine tq 2 ?_;refine tq 3 ?_;refine tq 4 ?_;refine tq 5 ?_;refine tq 6 ?_;refine tq 7 ?_;refine tq 8 ?_;refine tq 9 ?_;refine tq 10 ?_;refine tq 11 ?_;refine tq 12 ?_;try simp only[tz]
    refine tn 13 fun K hK=>?_;go_simp;apply(i _ H.drew.bel v (k:Int) χ ψ om om).mono;rintro e w2⟨rfl,W⟩;rw[ζ.out];have J:=zh (H.drew.on W);have j:=zh ((OI.keep (w':=w1.drew) Q (fun _ _=>rfl)).below W zr);clear W;have ι:=J.c0;have κ:=J.c1;have μ:=J.c2;have p:=j.cell (q-2) (oA B.out);rw[θ.out] at p;refine hK.out _ _ (⟨ι,κ,μ,p⟩) ?_;clear hK K D;intro D;try simp only[tz]
    refine tq 14 ?_;try simp only[tz]
    refine tn 15 fun K hK=>?_;go_simp;refine hK.out _ _ D fun _=>?_;refine tw ?_;try simp only[tz]
    clear D;have σ:=E.lt;cases hm:(ω==1)
    .rw[hm] at F;have I:Hid (wD O (q:Int)=vZ O (q:Int) (q-(k+1)) ((k+1:Nat):Int)):=by
      show _=_;rw[N.out,show q-k=(q-(k+1))+1 from om,vZ,F.out];simp
     clear C;go_wp2;exact⟨⟨k+1,om,om,pC,I,J⟩,oI⟩
    .rw[hm] at F;have I:Hid (wD O (q:Int)=kK O (q:Int) (k:Int)):=by
      show _=_;rw[N.out,show q-k=(q-(k+1))+1 from om,vZ,F.out];simp
     clear C;go_wp2;go_ret;exact⟨_,rfl,by rw[I.out];have s:=j.mono (Nat.le_of_lt σ);rw[B.out] at s;exact s,fun h=>(by rw[I.out] at h;have r:=B.out;rw[h] at r;simp at r;omega),J.bel⟩
   .have C:((n:Int)==(q:Int)-1)=false:=by rw[eA];exact R
    have I:Hid (wD O (q:Int)=vZ O (q:Int) (q-(k+1)) ((k+1:Nat):Int)):=by
     show _=_;have hk:nG O (q:Int) (k:Int)=false:=by unfold nG;rw[B.out,C,Bool.false_and]
     rw[N.out,show q-k=(q-(k+1))+1 from om,vZ,hk];simp
    clear R;obtain⟨A,c,rfl⟩:=Q.form';rw[B.out];go_wp2_with fail;refine tc 16 l m o fun D=>?_;refine tq 0 ?_;refine tq 1 ?_;refine tq 2 ?_;refine tq 3 ?_;refine tq 4 ?_;refine tq 5 ?_;try simp only[tz]
    refine tu 6 ?_;try simp only[tz]
    refine tu 7 ?_;try simp only[tz]
    refine tu 8 ?_;try simp only[tz]
    refine tu 9 ?_;try simp only[tz]
    refine tu 10 ?_;try simp only[tz]
    refine tu 11 ?_;try simp only[tz]
    refine tu 12 ?_;try simp only[tz]
    refine tn 13 fun K hK=>?_;go_simp;refine hK.out _ _ D fun _=>?_;try simp only[tz]
    refine tu 14 ?_;try simp only[tz]
    refine tn 15 fun K hK=>?_;go_simp;refine hK.out _ _ D fun _=>?_;refine tw ?_;try simp only[tz]
    clear D;go_wp2;exact⟨⟨k+1,om,om,pC,I,aG H.drew⟩,oI⟩
  .obtain rfl:q=k:=om;have ε:Hid (wD O (q:Int)=[]):=by show _=_;rw[N.out,Nat.sub_self];rfl
   go_wp2;go_ret;exact⟨_,rfl,by rw[ε.out];exact OI.nil _ _,fun _=>rfl,E.bel⟩
end
section
def mQ(E:LI)(q:Nat):Nat->LI
 |0=>List.replicate q 0
 |k+1=>(mQ E q k).set (E k 0).toNat (k:Int)
theorem uO(E:LI)(q:Nat):∀k,(mQ E q k).length=q
 |0=>by simp[mQ]
 |k+1=>by rw[mQ,aZ9,uO E q k]
theorem FM(E:LI)(q:Nat):∀k i,0<=(mQ E q k).getD i 0/\((mQ E q k).getD i 0<k\/(mQ E q k).getD i 0=0)
 |0,i=>by
  have:(mQ E q 0).getD i 0=0:=by unfold mQ;by_cases h:i<q<;>simp[List.getD,h]
  rw[this];omega
 |k+1,i=>by have A:=FM E q k i;rw[mQ,mM];split<;>omega
theorem FL{E:LI}{q n:Nat}(A:∀k,k<n->0<=E k 0/\E k 0<(q:Int))(hi:∀i j,i<n->j<n->E i 0=E j 0->i=j):∀k,k<=n->∀j,j<k->(mQ E q k).getD (E j 0).toNat 0=(j:Int)
 |0,_,j,h=>om
 |k+1,hk,j,hj=>by
  have B:=A k om;have C:=A j om;rw[mQ,mM,uO];by_cases e:j=k
  .subst e;rw[iP ⟨rfl,om⟩]
  .rw[iN (fun h=>e (hi j k om om (oA h.1)))];exact FL A hi k om j om
structure BQ(O:aQ)(q:Nat)(E L:LI):Prop where
 el:E=q-1
 ll:L=q
 gen:∃x,dL (q:Int) x/\iU O x (q-1)/\∀k,k<q-1->E k 0=bI O x k
 lo:∀k,k<q-1->L (E k 0).toNat 0=(k:Int)
 rng:∀i,0<=L i 0/\(L i 0<q-1\/L i 0=0)
section
variable {O:aQ} {q:Nat} {E L:LI} (hO:O.Fld (q:Int))
include hO
theorem PH{x:Int}(B:dL (q:Int) x){n:Nat}(h:iU O x n){i j:Nat}(hi:i<n)(C:j<n)(e:bI O x i=bI O x j):i=j:=by
 rcases Nat.lt_trichotomy i j with A|A|A
 .exact aB (yR hO B om e) (h.2.2 (j-i) om om)
 .exact A
 .exact aB (yR hO B om e.symm) (h.2.2 (i-j) om om)
theorem kb{x:Int}(B:dL (q:Int) x)(h:iU O x (q-1)):BQ O q ((List.range (q-1)).map (bI O x)) (mQ ((List.range (q-1)).map (bI O x)) q (q-1)):=by
 have A:∀k,k<q-1->((List.range (q-1)).map (bI O x)).getD k 0=bI O x k:=fun k hk=>by simp[List.getD,hk]
 refine⟨by simp,uO _ _ _,⟨x,B,h,A⟩,fun k hk=>?_,fun i=>?_⟩
 .refine FL (n:=q-1) (fun k hk=>?_) (fun i j hi C e=>?_) (q-1) zr k hk
  .rw[A k hk];have:=bV hO B k;exact⟨oA this.1,this.2⟩
  .rw[A i hi,A j C] at e;exact PH hO B h hi C e
 .have:=FM ((List.range (q-1)).map (bI O x)) q (q-1) i;have:=hO.lt.pos;omega
theorem BQ.unit(h:BQ O q E L){k:Nat}(hk:k<q-1):dL (q:Int) (E k 0):=by obtain⟨x,B,_,A⟩:=h.gen;rw[A k hk];exact bV hO B k
theorem BQ.hit(h:BQ O q E L){y:Int}(B:dL (q:Int) y):∃k,k<q-1/\E k 0=y/\L y.toNat 0=(k:Int):=by
 obtain⟨x,A,J,H⟩:=h.gen;obtain⟨k,hk,P⟩:=mO (q-1) (fun i=>(bI O x i).toNat-1) (fun i hi=>by
  have:=bV hO A i;have C:=this.1;have G:=this.2;omega) (fun i j hi I e=>PH hO A J hi I (by
  have a:=bV hO A i;have b:=bV hO A j;have F:=a.1;have K:=a.2;have M:=b.1;have N:=b.2;omega)) (y.toNat-1) (by have C:=B.1;have G:=B.2;omega)
 have a:=bV hO A k;have D:E k 0=y:=by rw[H k hk];have F:=a.1;have C:=B.1;omega
 refine⟨k,hk,D,?_⟩;rw[<-D];exact h.lo k hk
theorem PI{x:Int}(A:dL (q:Int) x){n:Nat}(h:iU O x n)(m:Nat):bI O x (m%n)=bI O x m:=by have e:m=n*(m/n)+m%n:=(Nat.div_add_mod m n).symm;conv=>rhs;rw[e,oT hO A,oU hO A,h.2.1,jI hO,jK hO (bV hO A _)]
theorem BQ.mul(h:BQ O q E L){y z:Int}(J:dL (q:Int) y)(K:dL (q:Int) z):
 (L y.toNat 0+L z.toNat 0)%((q:Int)-1)<(q:Int)-1/\0<=(L y.toNat 0+L z.toNat 0)%((q:Int)-1)/\
 E ((L y.toNat 0+L z.toNat 0)%((q:Int)-1)).toNat 0=O.mul y z:=by
 obtain⟨i,hi,C,M⟩:=h.hit hO J;obtain⟨j,F,D,N⟩:=h.hit hO K;obtain⟨x,B,I,A⟩:=h.gen;rw[M,N];have hq:((q:Int)-1)=((q-1:Nat):Int):=om;have H:((i:Int)+(j:Int))%((q:Int)-1)=(((i+j)%(q-1):Nat):Int):=by rw[hq];push_cast;rfl
 have G:=Nat.mod_lt (i+j) (show q-1>0 from om);rw[H];refine⟨om,om,?_⟩;rw[aZ8,A _ G,PI hO B I,oT hO B,<-A i hi,<-A j F,C,D]
theorem BQ.inv(h:BQ O q E L){y:Int}(A:dL (q:Int) y)(hi:0<=O.inv y/\O.inv y<(q:Int)):
 ((q:Int)-1-L y.toNat 0)%((q:Int)-1)<(q:Int)-1/\0<=((q:Int)-1-L y.toNat 0)%((q:Int)-1)/\
 E (((q:Int)-1-L y.toNat 0)%((q:Int)-1)).toNat 0=O.inv y:=by
 obtain⟨i,H,G,M⟩:=h.hit hO A;obtain⟨x,B,F,D⟩:=h.gen;rw[M];have hq:((q:Int)-1)=((q-1:Nat):Int):=om;have K:((q:Int)-1-(i:Int))%((q:Int)-1)=(((q-1-i)%(q-1):Nat):Int):=by rw[hq,show((q-1:Nat):Int)-(i:Int)=((q-1-i:Nat):Int) from om];push_cast;rfl
 have J:=Nat.mod_lt (q-1-i) (show q-1>0 from om);rw[K];refine⟨om,om,?_⟩;rw[aZ8,D _ J,PI hO B F];have I:dL (q:Int) (O.inv y):=by
  refine⟨?_,hi.2⟩;have:O.inv y≠0:=fun e=>by have C:=hO.mul_inv y A.1 A.2;rw[e,hO.mul_zero] at C;cases C
  omega
 refine AR hO A (bV hO B _) I ?_;rw[hO.mul_inv y A.1 A.2,<-G,D i H,<-oT hO B,show i+(q-1-i)=q-1 from om,F.2.1]
end
def jB(p:Int)(f:Nat->Int):Nat->Int
 |0=>0
 |k+1=>jB p f k+f k*p^k
theorem wM(p:Int)(f:Nat->Int):∀m,jB p f (m+1)=jB p (fun i=>f (i+1)) m*p+f 0
 |0=>by simp[jB]
 |m+1=>by have A:=wM p f m;rw[jB,A,jB,Int.add_mul,Int.pow_succ];have:f (m+1)*(p^m*p)=f (m+1)*p^m*p:=(aY8 _ _ _).symm;rw[this];omega
theorem rU{p:Int}{f g:Nat->Int}:∀{m},(∀i,i<m->f i=g i)->jB p f m=jB p g m
 |0,_=>rfl
 |m+1,h=>by rw[jB,jB,rU fun i hi=>h i om,h m om]
theorem zX(p:Int):∀(m:Nat) (f:Nat->Int),bL p (aT m f)=jB p f m
 |0,f=>rfl
 |m+1,f=>by
  rw[wM,<-zX p m];have:aT (m+1) f=f 0::aT m (fun i=>f (i+1)):=by unfold aT;rw[List.range_succ_eq_map,List.map_cons,List.map_map];rfl
  rw[this,bL]
theorem KZ{p:Int}{f:Nat->Int}{k m:Nat}(h:k<=m)(A:∀i,k<=i->i<m->f i=0):jB p f m=jB p f k:=by
 obtain⟨d,rfl⟩:∃d,m=k+d:=⟨m-k,om⟩
 induction d with
 |zero=>rfl
 |succ d ih=>rw[<-Nat.add_assoc,jB,ih om (fun i B C=>A i B om),A (k+d) om om];simp
theorem IN{p:Int}(C:2<=p){f:Nat->Int}(A:∀i,0<=f i/\f i<p):∀m,0<=jB p f m/\jB p f m<p^m
 |0=>by simp[jB]
 |m+1=>by
  obtain⟨D,E⟩:=IN C A m;obtain⟨B,F⟩:=A m;have J:0<p^m:=Int.pow_pos om;have G:0<=f m*p^m:=Int.mul_nonneg B om;have H:f m*p^m<=(p-1)*p^m:=Int.mul_le_mul_of_nonneg_right om om;have I:(p-1)*p^m=p^m*p-p^m:=by rw[Int.sub_mul,Int.one_mul,Int.mul_comm]
  rw[jB,Int.pow_succ];omega
def adg(p x y:Int)(i:Nat):Int:=(x/p^i%p+y/p^i%p)%p
def ndg(p x:Int)(i:Nat):Int:=(p-x/p^i%p)%p
theorem iw{p:Int}(A:2<=p)(x y:Int)(i:Nat):0<=adg p x y i/\adg p x y i<p:=⟨eN _ om,eM _ om⟩
theorem jr{p:Int}(A:2<=p)(x:Int)(i:Nat):0<=ndg p x i/\ndg p x i<p:=⟨eN _ om,eM _ om⟩
theorem pT{p:Int}(A:2<=p)(x:Int)(k:Nat):x/p^k/p=x/p^(k+1):=by rw[Int.ediv_ediv_of_nonneg (Int.le_of_lt (Int.pow_pos om)),Int.pow_succ]
theorem CH{p:Int}(A:2<=p){x:Int}{k:Nat}(h:x/p^k=0):∀i,k<=i->x/p^i=0:=fun i hi=>by
 obtain⟨d,rfl⟩:∃d,i=k+d:=⟨i-k,om⟩
 rw[Int.pow_add,<-Int.ediv_ediv_of_nonneg (Int.le_of_lt (Int.pow_pos om)),h,Int.zero_ediv]
theorem PZ{P M:Int}(x y:Int):fW P M x y=jB P (adg P (inQ (aF P M) x) (inQ (aF P M) y)) M.toNat:=by unfold fW;rw[zX];refine rU fun i hi=>?_;unfold cX adg;rw[gF hi,gF hi]
theorem SR{P M:Int}(x:Int):iO P M x=jB P (ndg P (inQ (aF P M) x)) M.toNat:=by unfold iO;rw[zX];refine rU fun i hi=>?_;unfold cX ndg;rw[gF hi]
theorem jj{q x:Int}:inQ q (inQ q x)=inQ q x:=by
 unfold inQ;by_cases h:0<=x/\x<q
 .rw[iP h,iP h]
 .rw[iN h];split<;>rfl
theorem GT(P M x:Int):cX P M (inQ (aF P M) x)=cX P M x:=by unfold cX;rw[jj]
theorem O9(P M:Int)(Mq:LI)(x y:Int):bM P M Mq (inQ (aF P M) x) (inQ (aF P M) y)=bM P M Mq x y:=by unfold bM;rw[GT,GT]
theorem KN(P M:Int)(Mq:LI)(x y:Int):bM P M Mq (inQ (aF P M) x) y=bM P M Mq x y:=by unfold bM;rw[GT]
theorem J8(P M:Int)(Mq:LI)(x:Int):∀k,eX P M Mq (inQ (aF P M) x) k=eX P M Mq x k
 |0=>rfl
 |k+1=>by rw[eX,eX,J8 P M Mq x k,KN]
theorem aw(P M:Int)(Mq:LI)(x:Int):lY P M Mq (inQ (aF P M) x)=lY P M Mq x:=J8 P M Mq x _
theorem LU:∀(m x y:Nat),x<2^m->y<2^m->jB 2 (adg 2 (x:Int) (y:Int)) m=((x^^^y:Nat):Int)
 |0,x,y,hx,hy=>by
  obtain rfl:x=0:=by simpa using hx
  obtain rfl:y=0:=by simpa using hy
  rfl
 |m+1,x,y,hx,hy=>by
  rw[Nat.pow_succ] at hx hy;have F:=LU m (x/2) (y/2) om om;have e:∀i,adg 2 (x:Int) (y:Int) (i+1)=adg 2 ((x/2:Nat):Int) ((y/2:Nat):Int) i:=fun i=>by
   have A:∀z:Nat,((z:Int))/2^(i+1)=((z/2:Nat):Int)/2^i:=fun z=>by rw[Int.pow_succ,Int.mul_comm,<-Int.ediv_ediv_of_nonneg om];push_cast;rfl
   unfold adg;rw[A,A]
  have C:adg 2 (x:Int) (y:Int) 0=(((x+y)%2:Nat):Int):=by unfold adg;simp
  rw[wM,rU fun i _=>e i,F,C];have D:(x^^^y)/2=x/2^^^y/2:=Nat.xor_div_two;have E:(x^^^y)%2=(x+y)%2:=by have h:=Nat.xor_mod_two_pow (a:=x) (b:=y) (n:=1);rw[Nat.pow_one] at h;rw[h];rcases Nat.mod_two_eq_zero_or_one x with B|B<;>rcases Nat.mod_two_eq_zero_or_one y with A|A<;>rw[B,A,Nat.add_mod,B,A]<;>decide
  rw[<-D,<-E];omega
