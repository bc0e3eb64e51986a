/- Texts of a claim, merged. -/
import Derived.Test.YtpfhoemohibniaaGreatDoorZA2
import Derived.WalkSpells
import Derived.Lib.LazyBuf
import Derived.RangeFuncNested
import Derived.RangeFuncBound
import Derived.RangeFuncCalls
import Derived.Deep.RegionLaw
import Derived.Laws.EntriesVeiled
import Derived.OwnWalkIn
import Derived.Lib.Bytealg
import Derived.Laws.Externs
set_option maxRecDepth 100000
set_option linter.unusedSimpArgs false
set_option linter.unusedVariables false
set_option maxHeartbeats 32000000
namespace Go.Proofs.YtpfhoemohibniaaGreatDoor
theorem OF{p:Int}(E:lE p){c:Int}(M:c%p≠0):∃c',(c'*c)%p=1:=by
 have O:=E.1
 --the least positive residue of a multiple of c
 have key:∀n:Nat,∀r:Int,r.toNat<=n->0<r->r<p->(∃k,(k*c)%p=r)->∃c',(c'*c)%p=1:=by
  intro n
  induction n with
  |zero=>intro r C A _ _;omega
  |succ n ih=>
   intro r C A I ⟨k,D⟩;by_cases e:r=1
   .exact⟨k,by rw[D,e]⟩
   .have N:=E.2 r (by omega) I;have J:=Int.emod_nonneg p (show r≠0 by omega);have L:=Int.emod_lt_of_pos p A;refine ih (p%r) (by omega) (by omega) (by omega) ⟨-(k*(p/r)),?_⟩;have K:=Int.emod_add_mul_ediv p r;have B:=Int.emod_add_mul_ediv (k*c) p;rw[D] at B;have F: -(k*(p/r))*c=p%r+p*(-(1:Int)-(k*c/p)*(p/r)):=by
     have G:k*(p/r)*c=(p/r)*(k*c):=by rw[Int.mul_comm k,aY8]
     rw[Int.neg_mul,G];generalize p/r=s at*;generalize k*c/p=t at*;rw[<-B,Int.mul_add,Int.mul_sub,Int.mul_comm s r,Int.mul_neg,Int.mul_one];have H:s*(p*t)=p*(t*s):=by rw[<-aY8,Int.mul_comm s p,aY8,Int.mul_comm s t]
     rw[H];omega
    rw[F,Int.add_mul_emod_self_left];exact Int.emod_eq_of_lt J (by omega)
 have C:=Int.emod_nonneg c (show p≠0 by omega);have A:=Int.emod_lt_of_pos c (show 0<p by omega);exact key _ (c%p) zr (by omega) A ⟨1,by rw[Int.one_mul]⟩
def dS:Nat->Int:=fun _=>0
section
variable {p:Int} {l:Nat->Int} {N:Nat}
def sJ(p:Int)(l:Nat->Int)(N:Nat)(f:Nat->Int)(n:Nat)(b:Nat->Int):Prop:=Cg p (aZ l N f n b) dS
theorem CI{f:Nat->Int}{b:Nat->Int}{n m:Nat}(h:n<=m)(A:∀i,n<=i->i<m->f i%p=0):Cg p (aZ l N f m b) (aZ l N f n b):=by
 induction m with
 | zero => obtain rfl : n = 0 := by omega
           exact Cg.refl _ _
 |succ m ih=>
   by_cases e:n=m+1
   . rw[e];exact Cg.refl _ _
   . refine Cg.trans ?_ (ih (by omega) fun i B C=>A i B (by omega));intro j;show(aZ l N f m b j+f m*tP l N m b j)%p=_;rw[Int.add_emod,Int.mul_emod,A m (by omega) (by omega),Int.zero_mul,Int.zero_emod,Int.add_zero,Int.emod_emod_of_dvd _ (Int.dvd_refl p)]
theorem uQ(G:lE p){b:Nat->Int}(hb:¬Cg p b dS):∀D,(∃f:Nat->Int,f D%p≠0/\sJ p l N f (D+1) b)->
  ∃(d:Nat) (g:Nat->Int),1<=d/\d<=D/\Sup d g/\(∀i,0<=g i/\g i<p)/\Cg p (fun j=>tP l N d b j+aZ l N g d b j) dS/\∀(f:Nat->Int) n,n<=d->sJ p l N f n b->∀i,i<n->f i%p=0:=by
 intro D
 induction D using Nat.strongRecOn with
 |ind D ih=>
  rintro ⟨f,S,T⟩;have W:=G.1;by_cases H:∃B,B<D/\∃f:Nat->Int,f B%p≠0/\sJ p l N f (B+1) b
  .obtain⟨B,C,A⟩:=H;obtain⟨d,g,O,V,P⟩:=ih B C A;exact⟨d,g,O,by omega,P⟩
  .obtain⟨c,R⟩:=OF G S;have I:Cg p (fun j=>tP l N D b j+aZ l N (fun i=>if i<D then(c*f i)%p else 0) D b j) dS:=by
    have C:Cg p (fun j=>c*aZ l N f (D+1) b j) (fun j=>c*dS j):=Cg.smul rfl T;intro j;have A:=C j;have J:c*aZ l N f (D+1) b j=aZ l N (fun i=>c*f i) D b j+c*f D*tP l N D b j:=by show c*(bH (fun i=>f i*tP l N i b j) D+f D*tP l N D b j)=_;rw[Int.mul_add,eV,aY8];congr 1;exact bD fun i _=>(aY8 _ _ _).symm
    have K:Cg p (aZ l N (fun i=>if i<D then(c*f i)%p else 0) D b) (aZ l N (fun i=>c*f i) D b):=
     Cg.sum (v:=fun i=>tP l N i b) (u:=fun i=>tP l N i b) (fun i hi=>by show(if i<D then(c*f i)%p else 0)%p=c*f i%p;rw[if_pos hi];exact Int.emod_emod_of_dvd _ (Int.dvd_refl p)) (fun i _=>Cg.refl _ _)
    dsimp only at A;rw[J] at A;dsimp only;rw[Int.add_emod,K j,<-Int.add_emod,Int.add_comm];have L:(c*f D*tP l N D b j)%p=tP l N D b j%p:=by rw[Int.mul_emod,R,Int.one_mul,Int.emod_emod_of_dvd _ (Int.dvd_refl p)]
    rw[Int.add_emod,<-L,<-Int.add_emod,A];show(c*0)%p=0%p;rw[Int.mul_zero]
   have U:∀(f:Nat->Int) n,n<=D->sJ p l N f n b->∀i,i<n->f i%p=0:=by
    intro E n
    induction n with
    |zero=>intro _ _ i hi;omega
    |succ n ihn=>
     intro hn F i hi;by_cases e:E n%p=0
     .by_cases M:i=n
      .rw[M];exact e
      .exact ihn (by omega) ((CI (l:=l) (N:=N) (f:=E) (b:=b) (n:=n) (m:=n+1) (by omega) fun k C A=>by rw[show k=n by omega];exact e).symm.trans F) i (by omega)
     .exact absurd ⟨n,by omega,E,e,F⟩ H
   refine⟨D,fun i=>if i<D then(c*f i)%p else 0,?_,Nat.le_refl _,fun i hi=>if_neg (by omega),fun i=>?_,I,U⟩
   .refine Nat.one_le_iff_ne_zero.2 fun Q=>hb ?_;subst Q;intro j;have:=I j;show b j%p=0%p;have e:(tP l N 0 b j+aZ l N (fun i=>if i<0 then(c*f i)%p else 0) 0 b j)=b j:=by
     show b j+0=b j;omega
    dsimp only at this;rw[e] at this;exact this
   .dsimp only;split
    .exact⟨Int.emod_nonneg _ (by omega),Int.emod_lt_of_pos _ (by omega)⟩
    .omega
theorem sN(D:0<N){b:Nat->Int}(hb:Sup N b)(A:Sup N l):(fun j=>tP l N N b j+aZ l N l N b j)=dS:=by
 have B:tP l N N b=aZ l N b N (tP l N N (aL 0)):=by rw[<-pP,lP l N hb]
 have C:tP l N N (aL 0)=fun j=>(-1)*l j:=by
  rw[KH l N D];funext j;by_cases h:j<N
  .rw[if_pos h];omega
  .rw[if_neg h,A j (by omega)];rfl
 rw[B,C,(nR l N b N).smul,show aZ l N b N l=eT l N l b from rfl,gL l N A hb];funext j;show(-1)*eT l N b l j+eT l N b l j=0;omega
theorem SO {b g : Nat -> Int} {d : Nat} (I : 1 <= d) (H : Cg p (fun j => tP l N d b j + aZ l N g d b j) dS) (v : Nat -> Int) :
   Cg p (aZ l N (tX g d v) d b) (tX l N (aZ l N v d b)):=by
 obtain⟨e,rfl⟩:∃e,d=e+1:=⟨d-1,by omega⟩
 intro j;have A:aZ l N (tX g (e+1) v) (e+1) b j=aZ l N (fun i=>if i=0 then 0 else v (i-1)) (e+1) b j-v e*aZ l N g (e+1) b j:=by
   have:∀i,i<e+1->tX g (e+1) v i*tP l N i b j=(if i=0 then 0 else v (i-1))*tP l N i b j+(-v e)*(g i*tP l N i b j):=fun i hi=>by unfold tX;rw[if_pos hi,show e+1-1=e by omega,Int.sub_mul,Int.neg_mul,aY8];rfl
   show bH (fun i=>tX g (e+1) v i*tP l N i b j) (e+1)=bH _ (e+1)-v e*bH _ (e+1);rw[bD this,iC,<-eV,Int.neg_mul];rfl
 have C:tX l N (aZ l N v (e+1) b) j=bH (fun i=>v i*tP l N (i+1) b j) (e+1):=by have:=congrFun ((tO l N).sum v (fun i=>tP l N i b) (e+1)) j;exact this
 have D:aZ l N (fun i=>if i=0 then 0 else v (i-1)) (e+1) b j=bH (fun i=>v i*tP l N (i+1) b j) e:=by show bH (fun i=>(if i=0 then 0 else v (i-1))*tP l N i b j) (e+1)=_;rw[pO,if_pos rfl,Int.zero_mul,Int.zero_add];exact bD fun i _=>by rw[if_neg (by omega),show i+1-1=i by omega]
 have h:=H j;dsimp only at h;have F:(tP l N (e+1) b j+aZ l N g (e+1) b j)%p=0:=by rw[h];exact Int.zero_emod p
 obtain⟨t,J⟩:=Int.dvd_of_emod_eq_zero F;rw[A,C,D,bH];generalize bH (fun i=>v i*tP l N (i+1) b j) e=S;generalize aZ l N g (e+1) b j=G at*;have E:G=p*t-tP l N (e+1) b j:=by omega
 generalize tP l N (e+1) b j=B at*;rw[E,Int.mul_sub,show S-(v e*(p*t)-v e*B)=(S+v e*B)+p*(-(v e*t)) by rw[Int.mul_neg,show p*(v e*t)=v e*(p*t) by rw[<-aY8,Int.mul_comm p,aY8]];omega];exact Int.add_mul_emod_self_left _ _ _
theorem EO{b g:Nat->Int}{d:Nat}(A:1<=d)(B:Cg p (fun j=>tP l N d b j+aZ l N g d b j) dS):∀k,Cg p (aZ l N (tP g d k (aL 0)) d b) (tP l N k b)
 |0=>fun j=>by show bH (fun i=>aL 0 i*tP l N i b j) d%p=b j%p;rw[eN (k:=0) (by omega) fun i _ C=>by unfold aL;rw[if_neg C,Int.zero_mul]];unfold aL;rw[if_pos rfl,Int.one_mul];rfl
 |k+1=>(SO A B _).trans ((EO A B k).lin (tO l N))
theorem SN{b g:Nat->Int}{d:Nat}(B:1<=d)(C:Cg p (fun j=>tP l N d b j+aZ l N g d b j) dS)(f:Nat->Int)(n:Nat):Cg p (aZ l N (aZ g d f n (aL 0)) d b) (aZ l N f n b):=by
 have e:aZ l N (aZ g d f n (aL 0)) d b=fun j=>bH (fun k=>f k*aZ l N (tP g d k (aL 0)) d b j) n:=by
  funext j;show bH (fun i=>bH (fun k=>f k*tP g d k (aL 0) i) n*tP l N i b j) d=bH (fun k=>f k*bH (fun i=>tP g d k (aL 0) i*tP l N i b j) d) n;have A:bH (fun i=>bH (fun k=>f k*tP g d k (aL 0) i) n*tP l N i b j) d=bH (fun i=>bH (fun k=>f k*(tP g d k (aL 0) i*tP l N i b j)) n) d:=
   bD fun i _=>by rw[Int.mul_comm,eV];exact bD fun k _=>by rw[Int.mul_comm (tP l N i b j),aY8]
  rw[A,sC];exact bD fun k _=>(eV _ _ _).symm
 rw[e];exact Cg.sum (v:=fun k=>aZ l N (tP g d k (aL 0)) d b) (u:=fun k=>tP l N k b) (fun _ _=>rfl) fun k _=>EO B C k
theorem zL (E : 0 < N) (G : Sup N l) {b g : Nat -> Int} {d : Nat} (hb : Sup N b) (B : 1 <= d) (C : Cg p (fun j => tP l N d b j + aZ l N g d b j) dS)
   (H:∀(f:Nat->Int) n,n<=d->sJ p l N f n b->∀i,i<n->f i%p=0):Cg p (fun j=>aZ g d l N (aL 0) j+tP g d N (aL 0) j) dS:=by
 have D:sJ p l N (fun j=>aZ g d l N (aL 0) j+tP g d N (aL 0) j) d b:=by
   have e:aZ l N (fun j=>aZ g d l N (aL 0) j+tP g d N (aL 0) j) d b=fun j=>aZ l N (aZ g d l N (aL 0)) d b j+aZ l N (tP g d N (aL 0)) d b j:=by funext j;show bH (fun i=>(_+_)*tP l N i b j) d=bH _ d+bH _ d;rw[<-iC];exact bD fun i _=>Int.add_mul _ _ _
   show Cg p (aZ l N _ d b) dS;rw[e];refine((SN B C l N).add (EO B C N)).trans ?_;have:=sN (l:=l) E hb G;intro j;have A:=congrFun this j;dsimp only at A|-;rw[Int.add_comm,A]
 intro j;by_cases F:j<d
 . rw[H _ d zr D j F];exact(Int.zero_emod p).symm
 . have I:=yG g d (a:=aL 0) (rC d (by omega)) l N j (by omega);have J:=EV g d (a:=aL 0) (rC d (by omega)) N j (by omega);dsimp only;rw[I,J];rfl
end
section
variable {p:Int} {low:LI}
theorem yY{c:Int}{i n:Nat}(hi:low.length<=i):∀J (r:LI),J<=low.length->i<r.length->i-low.length+J<=n->
  Cg p (iE (fn low) low.length (fS p low c i J r) n) (fun j=>iE (fn low) low.length r n j+(-c)*aZ (fn low) low.length (fn low) J (tP (fn low) low.length (i-low.length) (aL 0)) j)
 |0,r,_,_,_=>fun j=>by show _=(iE (fn low) low.length r n j+(-c)*0)%p;rw[Int.mul_zero,Int.add_zero];rfl
 |J+1,r,hJ,hl,hb=>by
  have B:=yY (c:=c) (i:=i) (n:=n) hi J r (by omega) hl (by omega);rw[fS];refine(pS (fn low) low.length (k:=i-low.length+J) (by rw[mE];omega) _ (by omega)).trans ?_;refine(B.add (Cg.refl p _)).trans fun j=>?_;dsimp only;have e:aZ (fn low) low.length (fn low) (J+1) (tP (fn low) low.length (i-low.length) (aL 0)) j=aZ (fn low) low.length (fn low) J (tP (fn low) low.length (i-low.length) (aL 0)) j+fn low J*tP (fn low) low.length (i-low.length+J) (aL 0) j:=by show _+fn low J*tP (fn low) low.length J (tP (fn low) low.length (i-low.length) (aL 0)) j=_;rw[nO,Nat.add_comm J];rfl
  rw[e,Int.mul_add];generalize aZ (fn low) low.length (fn low) J (tP (fn low) low.length (i-low.length) (aL 0)) j=A;show(_+(p-c)*fn low J*_)%p=_;generalize tP (fn low) low.length (i-low.length+J) (aL 0) j=t;rw[Int.sub_mul,Int.sub_mul,aY8 p,Int.neg_mul,Int.neg_mul,aY8 c];generalize iE (fn low) low.length r n j=V;generalize c*A=X;generalize c*(fn low J*t)=Y;rw[show V+ -X+(p*(fn low J*t)-Y)=(V+(-X+ -Y))+p*(fn low J*t) by omega];exact Int.add_mul_emod_self_left _ _ _
theorem TS{l:Nat->Int}{N:Nat}{c c':LI}{n:Nat}(h:∀i,i<n->fn c i=fn c' i):iE l N c n=iE l N c' n:=by funext j;exact bD fun i hi=>by rw[h i hi]
theorem I3(D:0<low.length){i:Nat}(hi:low.length<=i){r:LI}(F:i<r.length):
  Cg p (iE (fn low) low.length ((fS p low (fn r i) i low.length r).set i 0) i) (iE (fn low) low.length r (i+1)):=by
 have A:Sup low.length (fn low):=fun j E=>aW E;rw[TS (c':=fS p low (fn r i) i low.length r) fun k G=>by unfold fn;rw[kN,if_neg (fun h=>by omega)]];refine(yY (n:=i) hi low.length r zr F (by omega)).trans fun j=>?_;dsimp only;congr 1;show _=iE (fn low) low.length r i j+fn r i*tP (fn low) low.length i (aL 0) j;congr 1;have B:aZ (fn low) low.length (fn low) low.length (tP (fn low) low.length (i-low.length) (aL 0))=tP (fn low) low.length (i-low.length) (fn low):=by rw[<-pP,lP _ _ A]
 have C:tP (fn low) low.length i (aL 0)=fun j=>(-1)*tP (fn low) low.length (i-low.length) (fn low) j:=by
  rw[show tP (fn low) low.length i (aL 0)=tP (fn low) low.length (i-low.length) (tP (fn low) low.length low.length (aL 0)) by rw[nO];congr 1;omega,KH _ _ D,<-(pQ (fn low) low.length (i-low.length)).smul];congr 1;funext j;by_cases h:j<low.length
  .rw[if_pos h];omega
  .rw[if_neg h,A j (by omega)];rfl
 rw[B,C];dsimp only;rw[Int.neg_mul,Int.neg_mul,Int.one_mul,Int.mul_neg]
theorem yX(c:Int){i k:Nat}(hi:low.length<=i)(A:i<=k):∀J (r:LI),J<=low.length->fn (fS p low c i J r) k=fn r k
 |0,_,_=>rfl
 |J+1,r,hJ=>by rw[fS];unfold fn;rw[kN,if_neg (fun h=>by omega)];exact yX c hi A J r (by omega)
theorem B5(A:0<low.length){r:LI}:∀t,low.length+t<=r.length->
  Cg p (iE (fn low) low.length (eY p low r t) (r.length-t)) (iE (fn low) low.length r r.length)/\∀k,r.length-t<=k->fn (eY p low r t) k=0
 |0,_=>⟨Cg.refl _ _,fun k D=>aW (by show r.length<=k;omega)⟩
 |t+1,ht=>by
  obtain⟨B,C⟩:=B5 A (r:=r) t (by omega);rw[eY];refine⟨?_,fun k D=>?_⟩
  .rw[show r.length-(t+1)=r.length-1-t by omega];have:=I3 (p:=p) A (i:=r.length-1-t) (r:=eY p low r t) (by omega) (by rw[nW];omega);refine this.trans ?_;rw[show r.length-1-t+1=r.length-t by omega];exact B
  .unfold fn;rw[kN];by_cases e:r.length-1-t=k
   .rw[if_pos ⟨e,by rw[mE,nW];omega⟩]
   .rw[if_neg (fun h=>e h.1)];have:=yX (p:=p) (low:=low) (fn (eY p low r t) (r.length-1-t)) (i:=r.length-1-t) (k:=k) (by omega) (by omega) low.length (eY p low r t) zr;exact this.trans (C k (by omega))
theorem wS(O:2<=p)(K:0<low.length){mod:LI}(hm:Rng p mod)(V:low.length<=mod.length):
  eR p low mod=true↔Cg p (fun j=>aZ (fn low) low.length (fn mod) mod.length (aL 0) j+tP (fn low) low.length mod.length (aL 0) j) dS:=by
 have P:Rng p (mod++[1]):=fun k=>by
  by_cases h:k<mod.length
  .have:=hm k;simpa[List.getD,aY2 h] using this
  .by_cases e:k=mod.length
   .subst e;simp[List.getD];omega
   .rw[aW (by simp;omega)];omega
 have M:(mod++[1]).length=mod.length+1:=by simp
 obtain⟨B,E⟩:=B5 (p:=p) K (r:=mod++[1]) (mod.length+1-low.length) (by omega);have Q:=vR O low (mod++[1]) P (mod.length+1-low.length);have U:=nW p low (mod++[1]) (mod.length+1-low.length);rw[M,show mod.length+1-(mod.length+1-low.length)=low.length by omega] at B E;have H:iE (fn low) low.length (mod++[1]) (mod.length+1)=fun j=>aZ (fn low) low.length (fn mod) mod.length (aL 0) j+tP (fn low) low.length mod.length (aL 0) j:=by
  funext j;show bH (fun i=>fn (mod++[1]) i*tP (fn low) low.length i (aL 0) j) mod.length+fn (mod++[1]) mod.length*tP (fn low) low.length mod.length (aL 0) j=_;have I:fn (mod++[1]) mod.length=1:=by simp[fn,List.getD]
  rw[I,Int.one_mul];congr 1;exact bD fun i hi=>by simp[fn,List.getD,aY2 hi]
 rw[H] at B;have D:∀j,j<low.length->iE (fn low) low.length (eY p low (mod++[1]) (mod.length+1-low.length)) low.length j=fn (eY p low (mod++[1]) (mod.length+1-low.length)) j:=fun j A=>by show bH (fun i=>_*tP (fn low) low.length i (aL 0) j) low.length=_;rw[eN (k:=j) A fun i hi N=>by rw[lO _ _ i hi];unfold aL;rw[if_neg (fun e=>N e.symm)];exact Int.mul_zero _];rw[lO _ _ j A];unfold aL;rw[if_pos rfl,Int.mul_one]
 unfold eR;rw[List.all_eq_true];constructor
 .intro h j;by_cases A:j<low.length
  .rw[<-B j,D j A];have hm:(eY p low (mod++[1]) (mod.length+1-low.length))[j]'(by omega)∈eY p low (mod++[1]) (mod.length+1-low.length):=aY6 _;have:=h _ hm;rw[beq_iff_eq] at this;have C:fn (eY p low (mod++[1]) (mod.length+1-low.length)) j=0:=by
    unfold fn;rw[aZ4,aZ3 (by omega)];exact this
   rw[C];rfl
  .have S:=yG (fn low) low.length (a:=aL 0) (rC low.length (by omega)) (fn mod) mod.length j (by omega);have T:=EV (fn low) low.length (a:=aL 0) (rC low.length (by omega)) mod.length j (by omega);dsimp only;rw[S,T];rfl
 .intro h x R;obtain⟨j,A,rfl⟩:=List.mem_iff_getElem.1 R;rw[beq_iff_eq];have C:fn (eY p low (mod++[1]) (mod.length+1-low.length)) j=(eY p low (mod++[1]) (mod.length+1-low.length))[j]:=by
   unfold fn;rw[aZ4,aZ3 A];rfl
  rw[<-C];by_cases L:j<low.length
  .have F:=B j;rw[D j L,h j] at F;have G:=Q j;have J:fn (eY p low (mod++[1]) (mod.length+1-low.length)) j%p=0:=by rw[F];exact Int.zero_emod p
   exact(Int.emod_eq_of_lt G.1 G.2).symm.trans J
  .exact E j (by omega)
end
theorem pB{p:Int}(B:2<=p):∀(i:Nat) (d:LI),(∀k,k<d.length->0<=d.getD k 0/\d.getD k 0<p)->i<d.length->bL p d/p^i%p=d.getD i 0
 |_,[],_,hi=>absurd hi (by simp)
 |0,a::d,h,_=>by have A:=h 0 (by simp);simp only[List.getD_cons_zero] at A|-;rw[Int.pow_zero,Int.ediv_one,bL,Int.add_comm,Int.add_mul_emod_self_right];exact Int.emod_eq_of_lt A.1 A.2
 |i+1,a::d,h,hi=>by have A:=h 0 (by simp);simp only[List.getD_cons_zero] at A;have D:=pB B i d (fun k C=>by have:=h (k+1) (by simpa using C);simpa using this) (by simpa using hi);rw[List.getD_cons_succ,<-D,<-div_pow_succ' B];congr 2;rw[bL,Int.add_comm,Int.add_mul_ediv_right _ _ (by omega),Int.ediv_eq_zero_of_lt A.1 A.2,Int.zero_add]
where
 div_pow_succ' {p:Int} (hp:2<=p) {x:Int} {i:Nat}:x/p/p^i=x/p^(i+1):=by rw[Int.pow_succ,Int.mul_comm,Int.ediv_ediv_of_nonneg (by omega)]
section
variable {p:Int} {low:LI}
theorem RH(V:lE p)(K:0<low.length)(hR:Rng p low)(C:uN p low=true){b g:Nat->Int}{d:Nat}(hb:Sup low.length b)(L:1<=d)(X:2*d<=low.length)(hg:Sup d g)(P:∀i,0<=g i/\g i<p)
  (W:Cg p (fun j=>tP (fn low) low.length d b j+aZ (fn low) low.length g d b j) dS)(T:∀(f:Nat->Int) n,n<=d->sJ p (fn low) low.length f n b->∀i,i<n->f i%p=0):False:=by
 have S:Sup low.length (fn low):=fun j Q=>aW Q;have R:=zL K S hb L W T;have D:=V.1;have A:(aQ d g).length=d:=aT d g;have O:fn (aQ d g)=g:=funext fun i=>by
  unfold fn;by_cases h:i<d
  .exact aS h
  .rw[aW (by rw[A];omega),hg i (by omega)]
 have N:eR p (aQ d g) low=true:=by rw[wS D (by omega) hR (by omega),A,O];exact R
 have G:∀k,k<(aQ d g).length->0<=(aQ d g).getD k 0/\(aQ d g).getD k 0<p:=fun k F=>by rw[A] at F;rw[aS F];exact P k
 have H:=iF D (aQ d g) G;rw[A] at H;have M:bU (bL p (aQ d g)) p d=aQ d g:=by refine List.ext_getElem (by rw[dI,A]) fun i J B=>?_;rw[A] at B;have I:=pB D i (aQ d g) G (by omega);have E:=eI (x:=bL p (aQ d g)) (p:=p) B;rw[I] at E;simpa[List.getD,J,A,B] using E
 have U:pV p low (low.length/2)=false:=by refine wX (d:=d-1) (by omega) ?_;rw[show d-1+1=d by omega];refine uZ (v:=(bL p (aQ d g)).toNat) (by omega) ?_;rw[Int.toNat_of_nonneg H.1,M];exact N
 unfold uN at C;rw[U] at C;cases C
end
section
variable {l:Nat->Int} {N:Nat}
theorem H9{c:Nat->Int}{d:Nat}(C:c d=1)(B:∀j,d<j->c j=0):∀k,d+k<N->tP l N k c (d+k)=1/\∀j,d+k<j->tP l N k c j=0
 |0,_=>⟨C,B⟩
 |k+1,h=>by
  obtain⟨F,A⟩:=H9 C B k (by omega);have E:tP l N k c (N-1)=0:=A _ (by omega);refine⟨?_,fun j G=>?_⟩
  .show tX l N (tP l N k c) (d+(k+1))=1;unfold tX;rw[if_pos h,if_neg (by omega),E,show d+(k+1)-1=d+k by omega,F];omega
  .show tX l N (tP l N k c) j=0;unfold tX;by_cases D:j<N
   .rw[if_pos D,if_neg (by omega),E,A (j-1) (by omega)];omega
   .rw[if_neg D]
theorem AN{c:Nat->Int}{d:Nat}(I:d<N)(D:c d=1)(C:∀j,d<j->c j=0){v:Nat->Int}(E:Sup N v):∀t,t<=N-d->∃s:Nat->Int,(∀k,k<N-d-t->s k=0)/\∀j,N-t<=j->v j=bH (fun k=>s k*tP l N k c j) (N-d)
 |0,_=>⟨fun _=>0,fun _ _=>rfl,fun j K=>by rw[E j (by omega)];exact(jC fun k _=>Int.zero_mul _).symm⟩
 |t+1,ht=>by
  obtain⟨s,B,H⟩:=AN I D C E t (by omega);obtain⟨A,Q⟩:∃A,A=N-d-t-1:=⟨_,rfl⟩
  obtain⟨F,G⟩:=H9 (l:=l) (N:=N) D C A (by omega);obtain⟨x,O⟩:∃x,x=v (d+A)-bH (fun k=>s k*tP l N k c (d+A)) (N-d):=⟨_,rfl⟩
  have M:s A=0:=B A (by omega);have J:∀j,bH (fun k=>(if k=A then x else s k)*tP l N k c j) (N-d)=bH (fun k=>s k*tP l N k c j) (N-d)+x*tP l N A c j:=fun j=>by
   have e:∀k,(if k=A then x else s k)*tP l N k c j=s k*tP l N k c j+(if k=A then x*tP l N A c j else 0):=fun k=>by
    by_cases e:k=A
    .rw[if_pos e,if_pos e,e,M,Int.zero_mul,Int.zero_add]
    .rw[if_neg e,if_neg e,Int.add_zero]
   rw[bD fun k _=>e k,iC];congr 1;rw[eN (k:=A) (by omega) fun i _ L=>if_neg L,if_pos rfl]
  refine⟨fun k=>if k=A then x else s k,fun k P=>?_,fun j K=>?_⟩
  .dsimp only;rw[if_neg (by omega)];exact B k (by omega)
  .rw[J];by_cases e:j=d+A
   .rw[e,F,Int.mul_one,O];omega
   .rw[G j (by omega),Int.mul_zero,Int.add_zero];exact H j (by omega)
end
section
variable {p:Int} {low:LI}
theorem DI(H:2<=p){a:Nat->Int}:∀n,(∃i,i<n/\a i%p≠0)->∃D,D<n/\a D%p≠0/\∀i,D<i->i<n->a i%p=0
 |0,⟨i,hi,_⟩=>absurd hi (by omega)
 |n+1,⟨i,hi,h⟩=>by
   by_cases e:a n%p=0
   . obtain⟨D,I,E,F⟩:=DI H n ⟨i,by
       have:i≠n:=fun B=>h (B▸e);omega,h⟩
     exact⟨D,by omega,E,fun k A G=>by
       by_cases C:k=n
       . rw[C];exact e
       . exact F k A (by omega)⟩
   . exact⟨n,by omega,e,fun k A G=>by omega⟩
theorem R9{a:Nat->Int}{n:Nat}(D:2<=p)(A:Sup n a)(h:¬Cg p a dS):∃i,i<n/\a i%p≠0:=by
 refine aY0 fun C=>h fun j=>?_;by_cases B:j<n
 .have:a j%p=0:=aY0 fun e=>C ⟨j,B,e⟩;rw[this];exact(Int.zero_emod p).symm
 .rw[A j (by omega)];rfl
theorem oI(B:lE p)(M:0<low.length)(hR:Rng p low)(Q:uN p low=true){a b:Nat->Int}(N:Sup low.length a)(hb:Sup low.length b)
  (h:Cg p (eT (fn low) low.length a b) dS):Cg p a dS\/Cg p b dS:=by
 have R:=B.1;have ξ:Sup low.length (fn low):=fun j A=>aW A;by_cases O:Cg p b dS
 .exact .inr O
 .refine .inl (aY0 fun Z=>?_);rw[gL _ _ N hb] at h
  --a kills b
  obtain⟨D,ν,X,Y⟩:=DI R _ (R9 R N Z);have t:sJ p (fn low) low.length a (D+1) b:=(CI (n:=D+1) (m:=low.length) (by omega) fun i C E=>Y i (by omega) E).symm.trans h;obtain⟨d,g,V,μ,W,g4,g5,L⟩:=uQ B O D ⟨a,X,t⟩;by_cases o:2*d<=low.length
  .exact RH B M hR Q hb V o W g4 g5 L
  .have q:d<low.length:=by omega
   --the killer itself,as a vector
   obtain⟨c,F⟩:∃c:Nat->Int,c=fun i=>if i<d then g i else if i=d then 1 else 0:=⟨_,rfl⟩
   have H:c d=1:=by rw[F];dsimp only;rw[if_neg (by omega),if_pos rfl]
   have G:∀j,d<j->c j=0:=fun j A=>by rw[F];dsimp only;rw[if_neg (by omega),if_neg (by omega)]
   have I:Sup low.length c:=fun j A=>G j (by omega);have k:¬Cg p c dS:=fun h=>by have:=h d;rw[H] at this;rw[Int.emod_eq_of_lt (by omega) (by omega)] at this;have e:(dS d)%p=0:=Int.zero_emod p;omega
   have P:Cg p (eT (fn low) low.length b c) dS:=by
    have U:eT (fn low) low.length b c=fun j=>tP (fn low) low.length d b j+aZ (fn low) low.length g d b j:=by funext j;show bH (fun i=>c i*tP (fn low) low.length i b j) low.length=_;rw[AQ (n:=d+1) (by omega) fun i C E=>by rw[G i (by omega),Int.zero_mul],bH,H,Int.one_mul,Int.add_comm];congr 1;exact bD fun i hi=>by rw[F];dsimp only;rw[if_pos hi]
    rw[U];exact g5
   obtain⟨s,_,z⟩:=AN (l:=fn low) q H G (v:=tP (fn low) low.length (low.length-d) c) (EV _ _ I _) (low.length-d) zr
   --the remainder
   obtain⟨r,J⟩:∃r:Nat->Int,r=fun j=>tP (fn low) low.length (low.length-d) c j+(-1)*aZ (fn low) low.length s (low.length-d) c j:=⟨_,rfl⟩
   have K:Sup d r:=fun j A=>by rw[J];dsimp only;rw[z j (by omega)];show bH _ _+(-1)*bH _ _=0;omega
   have x:Sup low.length r:=fun j A=>K j (by omega);have u:Cg p (eT (fn low) low.length b r) dS:=by
    rw[gL _ _ hb x];have e:eT (fn low) low.length r b=fun j=>tP (fn low) low.length (low.length-d) (eT (fn low) low.length b c) j+(-1)*aZ (fn low) low.length s (low.length-d) (eT (fn low) low.length b c) j:=by show aZ (fn low) low.length b low.length r=_;rw[J,(nR (fn low) low.length b low.length).add (tP (fn low) low.length (low.length-d) c) (fun j=>(-1)*aZ (fn low) low.length s (low.length-d) c j),(nR (fn low) low.length b low.length).smul (-1) (aZ (fn low) low.length s (low.length-d) c)];rw[<-pP,vN _ _ b s];rw[show aZ (fn low) low.length b low.length c=eT (fn low) low.length c b from rfl,gL _ _ I hb]
    rw[e];have S:=P.lin (pQ (fn low) low.length (low.length-d));have T:=P.lin (nR (fn low) low.length s (low.length-d));rw[show(dS:Nat->Int)=fun _=>0 from rfl,(pQ _ _ _).zero] at S;rw[show(dS:Nat->Int)=fun _=>0 from rfl,(nR _ _ _ _).zero] at T;exact(S.add (Cg.smul rfl T)).trans fun j=>by show(0+(-1)*0)%p=0%p;rfl
   have w:sJ p (fn low) low.length r d b:=by
    have e:aZ (fn low) low.length r d b=eT (fn low) low.length b r:=by funext j;exact(AQ (by omega) fun i C E=>by rw[K i C,Int.zero_mul]).symm
    show Cg p _ _;rw[e];exact u
   have y:=L r d zr w
   --so the rest of the modulus kills c
   have f:sJ p (fn low) low.length (fun i=>if i<low.length-d then-s i else 1) (low.length-d+1) c:=by
    have e:aZ (fn low) low.length (fun i=>if i<low.length-d then-s i else 1) (low.length-d+1) c=r:=by funext j;show bH (fun i=>(if i<low.length-d then-s i else 1)*tP (fn low) low.length i c j) (low.length-d)+(if low.length-d<low.length-d then-s (low.length-d) else 1)*tP (fn low) low.length (low.length-d) c j=r j;rw[if_neg (by omega),Int.one_mul,J];dsimp only;rw[Int.add_comm];congr 1;show _=(-1)*bH _ _;rw[eV];exact bD fun i hi=>by rw[if_pos hi,Int.neg_mul,Int.neg_mul,Int.one_mul]
    show Cg p _ _;rw[e];intro j;by_cases A:j<d
    .rw[y j A];exact(Int.zero_emod p).symm
    .rw[K j (by omega)];rfl
   obtain⟨ι,κ,δ,π,ε,ζ,η,θ⟩:=uQ B k (low.length-d) ⟨_,by show(if low.length-d<low.length-d then-s (low.length-d) else 1)%p≠0;rw[if_neg (by omega),Int.emod_eq_of_lt (by omega) (by omega)];decide,f⟩;exact RH B M hR Q I δ (by omega) ε ζ η θ
end
structure aO where
 add:Int->Int->Int
 mul:Int->Int->Int
 neg:Int->Int
 inv:Int->Int
def bR(O:aO)(a:Int)(v:LI):LI:=aQ v.length fun i=>O.mul a (v.getD i 0)
def cH(O:aO)(v:LI)(a:Int)(u:LI):LI:=aQ v.length fun i=>if u.getD i 0≠0 then O.add (v.getD i 0) (O.mul a (u.getD i 0)) else v.getD i 0
theorem gI(O:aO)(a:Int)(v:LI):(bR O a v).length=v.length:=aT _ _
theorem iK(O:aO)(v:LI)(a:Int)(u:LI):(cH O v a u).length=v.length:=aT _ _
def dG(l:LL)(c n:Nat):Nat->Nat->Nat
 |0,k=>k
 |f+1,k=>if(l.getD k []).getD c 0=0 then dG l c n f (k+1) else k
def cF(l:LL)(a b:Nat):LL:=(l.set a (l.getD b [])).set b (l.getD a [])
def cP(O:aO)(c a:Nat)(l:LL):LL:=if(l.getD a []).getD c 0≠1 then l.set a (bR O (O.inv ((l.getD a []).getD c 0)) (l.getD a [])) else l
def aU(O:aO)(c a:Nat)(l:LL):Nat->LL
 |0=>l
 |i+1=>if i≠a/\((aU O c a l i).getD i []).getD c 0≠0 then(aU O c a l i).set i (cH O ((aU O c a l i).getD i []) (O.neg (((aU O c a l i).getD i []).getD c 0)) ((aU O c a l i).getD a [])) else aU O c a l i
def iA(O:aO)(c:Nat)(l:LL)(a k:Nat):LL:=aU O c a (cP O c a (cF l a k)) l.length
def aI(O:aO)(rows:LL):Nat->LL×LI
 |0=>(rows,[])
 |c+1=>
  if(aI O rows c).2.length<(aI O rows c).1.length then
   if dG (aI O rows c).1 c (aI O rows c).1.length ((aI O rows c).1.length-(aI O rows c).2.length) (aI O rows c).2.length=(aI O rows c).1.length then aI O rows c
   else(iA O c (aI O rows c).1 (aI O rows c).2.length (dG (aI O rows c).1 c (aI O rows c).1.length ((aI O rows c).1.length-(aI O rows c).2.length) (aI O rows c).2.length),(aI O rows c).2++[(c:Int)])
  else aI O rows c
def bC(O:aO)(rows:LL)(A:Nat):LL:=(aI O rows A).1.take (aI O rows A).2.length
def jX(O:aO)(rows:LL)(A:Nat):LI:=(aI O rows A).2
theorem eH(l:LL)(a b:Nat):(cF l a b).length=l.length:=by simp[cF]
theorem jV(O:aO)(c a:Nat)(l:LL):(cP O c a l).length=l.length:=by unfold cP;split<;>simp
theorem fW(O:aO)(c a:Nat)(l:LL):∀i,(aU O c a l i).length=l.length
 |0=>rfl
 |i+1=>by rw[aU];split<;>simp[fW O c a l i]
theorem DF(O:aO)(c:Nat)(l:LL)(a k:Nat):(iA O c l a k).length=l.length:=by rw[iA,fW,jV,eH]
theorem eQ(O:aO)(rows:LL):∀c,(aI O rows c).1.length=rows.length
 |0=>rfl
 |c+1=>by
  rw[aI];split
  .split
   .exact eQ O rows c
   .show(iA O c _ _ _).length=_;rw[DF,eQ O rows c]
  .exact eQ O rows c
theorem FT(l:LL)(c n:Nat):∀f k,k+f=n->k<=dG l c n f k/\dG l c n f k<=n
 |0,k,h=>by unfold dG;omega
 |f+1,k,h=>by
  unfold dG;split
  .have:=FT l c n f (k+1) (by omega);omega
  .omega
theorem jT(O:aO)(rows:LL):∀c,(aI O rows c).2.length<=rows.length/\(aI O rows c).2.length<=c
 |0=>by simp[aI]
 |c+1=>by
  have A:=jT O rows c;have B:=eQ O rows c;rw[aI];split
  .split
   .exact⟨A.1,by omega⟩
   .show((aI O rows c).2++[(c:Int)]).length<=_/\((aI O rows c).2++[(c:Int)]).length<=_;rw[aZ1,aZ2];omega
  .exact⟨A.1,by omega⟩
def Rows(q:Int)(n:Nat)(l:LL):Prop:=∀k,k<l.length->(l.getD k []).length=n/\∀i,0<=(l.getD k []).getD i 0/\(l.getD k []).getD i 0<q
structure aO.Lt(O:aO)(q:Int):Prop where
 pos:2<=q
 add:∀x y,0<=O.add x y/\O.add x y<q
 mul:∀x y,0<=O.mul x y/\O.mul x y<q
theorem cE(l:LL)(i k:Nat)(x:LI):(l.set i x).getD k []=if i=k/\i<l.length then x else l.getD k []:=by
 by_cases e:i=k
 .subst e;by_cases h:i<l.length<;>simp[List.getD,h]
 .simp[List.getD,List.getElem?_set_ne e,e]
theorem Rows.set{q:Int}{n:Nat}{l:LL}(h:Rows q n l)(k:Nat){r:LI}(B:r.length=n/\∀i,0<=r.getD i 0/\r.getD i 0<q):Rows q n (l.set k r):=fun j A=>by
 rw[aZ9] at A;rw[cE];split
 .exact B
 .exact h j A
theorem S3{q:Int}(hq:2<=q){n:Nat}{f:Nat->Int}(h:∀i,i<n->0<=f i/\f i<q):(aQ n f).length=n/\∀i,0<=(aQ n f).getD i 0/\(aQ n f).getD i 0<q:=
 ⟨aT _ _,fun i=>by
  by_cases hi:i<n
  .rw[aS hi];exact h i hi
  .rw[aW (by rw[aT];omega)];omega⟩
theorem Rows.scale{O:aO}{q:Int}(hO:O.Lt q)(a:Int)(v:LI):(bR O a v).length=v.length/\∀i,0<=(bR O a v).getD i 0/\(bR O a v).getD i 0<q:=
 S3 hO.pos fun i _=>hO.mul _ _
theorem Rows.addTo{O:aO}{q:Int}(hO:O.Lt q){v:LI}(A:∀i,0<=v.getD i 0/\v.getD i 0<q)(a:Int)(u:LI):(cH O v a u).length=v.length/\∀i,0<=(cH O v a u).getD i 0/\(cH O v a u).getD i 0<q:=
 S3 hO.pos fun i _=>by
  split
  .exact hO.add _ _
  .exact A i
theorem Rows.swap{q:Int}{n:Nat}{l:LL}(h:Rows q n l){a b:Nat}(A:a<l.length)(hb:b<l.length):Rows q n (cF l a b):=(h.set a (h b hb)).set b (h a A)
theorem Rows.monic{O:aO}{q:Int}(hO:O.Lt q){n:Nat}{l:LL}(h:Rows q n l)(c:Nat){a:Nat}(A:a<l.length):Rows q n (cP O c a l):=by
 unfold cP;split
 .have:=Rows.scale hO (O.inv ((l.getD a []).getD c 0)) (l.getD a []);exact h.set a ⟨this.1.trans (h a A).1,this.2⟩
 .exact h
theorem Rows.clear{O:aO}{q:Int}(hO:O.Lt q){n:Nat}{l:LL}(h:Rows q n l)(c a:Nat):∀i,i<=l.length->Rows q n (aU O c a l i)
 |0,_=>h
 |i+1,hi=>by
  have A:=Rows.clear hO h c a i (by omega);rw[aU];split
  .have B:=A i (by rw[fW];omega);have:=Rows.addTo hO B.2 (O.neg (((aU O c a l i).getD i []).getD c 0)) ((aU O c a l i).getD a []);exact A.set i ⟨this.1.trans B.1,this.2⟩
  .exact A
theorem Rows.elim{O:aO}{q:Int}(hO:O.Lt q){n:Nat}{rows:LL}(h:Rows q n rows):∀c,Rows q n (aI O rows c).1
 |0=>h
 |c+1=>by
  have A:=Rows.elim hO h c;have C:=jT O rows c;have B:=eQ O rows c;rw[aI];split
  .rename_i hlt;split
   .exact A
   .rename_i hne;have hb:=FT (aI O rows c).1 c (aI O rows c).1.length ((aI O rows c).1.length-(aI O rows c).2.length) (aI O rows c).2.length (by omega);show Rows q n (iA O c _ _ _);unfold iA;refine Rows.clear hO (Rows.monic hO (A.swap hlt (by omega)) c (by rw[eH];exact hlt)) c _ _ ?_;rw[jV,eH];exact Nat.le_refl _
  .exact A
structure aO.Fld(O:aO)(q:Int):Prop where
 lt:O.Lt q
 neg_lt:∀x,0<=O.neg x/\O.neg x<q
 inv_lt:∀x,0<=O.inv x/\O.inv x<q
 add_comm:∀x y,O.add x y=O.add y x
 add_assoc:∀x y z,O.add (O.add x y) z=O.add x (O.add y z)
 add_zero:∀x,0<=x->x<q->O.add x 0=x
 add_neg:∀x,O.add x (O.neg x)=0
 mul_comm:∀x y,O.mul x y=O.mul y x
 mul_assoc:∀x y z,O.mul (O.mul x y) z=O.mul x (O.mul y z)
 mul_one:∀x,0<=x->x<q->O.mul x 1=x
 mul_add:∀x y z,O.mul x (O.add y z)=O.add (O.mul x y) (O.mul x z)
 mul_zero:∀x,O.mul x 0=0
 mul_inv:∀x,0<x->x<q->O.mul x (O.inv x)=1
section
variable {O:aO} {q:Int} (hO:O.Fld q)
include hO
theorem aO.Fld.zero_add{x:Int}(A:0<=x)(B:x<q):O.add 0 x=x:=by rw[hO.add_comm];exact hO.add_zero x A B
theorem aO.Fld.zero_mul(x:Int):O.mul 0 x=0:=by rw[hO.mul_comm];exact hO.mul_zero x
theorem aO.Fld.one_mul{x:Int}(A:0<=x)(B:x<q):O.mul 1 x=x:=by rw[hO.mul_comm];exact hO.mul_one x A B
theorem aO.Fld.zero_zero:O.add 0 0=0:=hO.add_zero 0 (by omega) (by have:=hO.lt.pos;omega)
theorem aO.Fld.add_mul(x y z:Int):O.mul (O.add x y) z=O.add (O.mul x z) (O.mul y z):=by rw[hO.mul_comm,hO.mul_add,hO.mul_comm z x,hO.mul_comm z y]
theorem aO.Fld.neg_add(x:Int):O.add (O.neg x) x=0:=by rw[hO.add_comm];exact hO.add_neg x
theorem aO.Fld.add_cancel{x y z:Int}(A:0<=y/\y<q)(B:0<=z/\z<q)(h:O.add x y=O.add x z):y=z:=by
 have e:O.add (O.neg x) (O.add x y)=O.add (O.neg x) (O.add x z):=by rw[h]
 rw[<-hO.add_assoc,<-hO.add_assoc,hO.neg_add,hO.zero_add A.1 A.2,hO.zero_add B.1 B.2] at e;exact e
theorem aO.Fld.neg_unique{x y:Int}(A:0<=y/\y<q)(h:O.add x y=0):y=O.neg x:=
 hO.add_cancel A (hO.neg_lt x) (x:=x) (by rw[h,hO.add_neg])
theorem aO.Fld.neg_mul(x y:Int):O.mul (O.neg x) y=O.neg (O.mul x y):=
 hO.neg_unique (hO.lt.mul _ _) (by rw[<-hO.add_mul,hO.add_neg,hO.zero_mul])
theorem aO.Fld.neg_zero:O.neg 0=0:=(hO.neg_unique (x:=0) (y:=0) ⟨by omega,by have:=hO.lt.pos;omega⟩ hO.zero_zero).symm
theorem aO.Fld.neg_neg{x:Int}(A:0<=x)(B:x<q):O.neg (O.neg x)=x:=(hO.neg_unique ⟨A,B⟩ (hO.neg_add x)).symm
theorem aO.Fld.neg_add2(x y:Int):O.neg (O.add x y)=O.add (O.neg x) (O.neg y):=by refine(hO.neg_unique (hO.lt.add _ _) ?_).symm;rw[hO.add_comm (O.neg x),hO.add_assoc,<-hO.add_assoc y,hO.add_neg,hO.zero_add (hO.neg_lt _).1 (hO.neg_lt _).2,hO.add_neg]
theorem aO.Fld.add4(a b c d:Int):O.add (O.add a b) (O.add c d)=O.add (O.add a c) (O.add b d):=by rw[hO.add_assoc,hO.add_assoc,<-hO.add_assoc b,<-hO.add_assoc c,hO.add_comm b]
theorem aO.Fld.mul_eq_zero{x y:Int}(C:0<=x/\x<q)(B:0<=y/\y<q)(h:O.mul x y=0):x=0\/y=0:=by
 by_cases e:x=0
 .exact .inl e
 .right;have:=hO.mul_inv x (by omega) C.2;have A:O.mul (O.inv x) (O.mul x y)=0:=by rw[h,hO.mul_zero]
  rw[<-hO.mul_assoc,hO.mul_comm (O.inv x),this,hO.one_mul B.1 B.2] at A;exact A
def aR(O:aO)(f:Nat->Int):Nat->Int
 |0=>0
 |n+1=>O.add (aR O f n) (f n)
omit hO in
theorem aJ{f g:Nat->Int}:∀{n:Nat},(∀i,i<n->f i=g i)->aR O f n=aR O g n
 |0,_=>rfl
 |n+1,h=>by rw[aR,aR,aJ fun i hi=>h i (by omega),h n (by omega)]
theorem cW(f:Nat->Int):∀n,0<=aR O f n/\aR O f n<q
 |0=>⟨Int.le_refl _,by have:=hO.lt.pos;show(0:Int)<q;omega⟩
 |n+1=>hO.lt.add _ _
theorem fP(f g:Nat->Int):∀n,aR O (fun i=>O.add (f i) (g i)) n=O.add (aR O f n) (aR O g n)
 |0=>hO.zero_zero.symm
 |n+1=>by rw[aR,aR,aR,fP f g n,hO.add4]
theorem dN(a:Int)(f:Nat->Int):∀n,O.mul a (aR O f n)=aR O (fun i=>O.mul a (f i)) n
 |0=>hO.mul_zero a
 |n+1=>by rw[aR,aR,hO.mul_add,dN a f n]
theorem oR(a:Int)(f:Nat->Int)(n:Nat):O.mul (aR O f n) a=aR O (fun i=>O.mul (f i) a) n:=by rw[hO.mul_comm,dN hO];exact aJ fun i _=>hO.mul_comm _ _
theorem bK{f:Nat->Int}:∀{n:Nat},(∀i,i<n->f i=0)->aR O f n=0
 |0,_=>rfl
 |n+1,h=>by rw[aR,bK fun i hi=>h i (by omega),h n (by omega),hO.zero_zero]
theorem wJ(f:Nat->Int):∀n,O.neg (aR O f n)=aR O (fun i=>O.neg (f i)) n
 |0=>hO.neg_zero
 |n+1=>by rw[aR,aR,hO.neg_add2,wJ f n]
theorem bP{f:Nat->Int}{k:Nat}(A:0<=f k/\f k<q):∀{n:Nat},k<n->(∀i,i<n->i≠k->f i=0)->aR O f n=f k
 |0,h,_=>absurd h (by omega)
 |n+1,h,h0=>by
  rw[aR];by_cases e:k=n
  .subst e;rw[bK hO fun i hi=>h0 i (by omega) (by omega),hO.zero_add A.1 A.2]
  .rw[bP A (by omega) fun i hi=>h0 i (by omega),h0 n (by omega) (fun h=>e h.symm),hO.add_zero _ A.1 A.2]
theorem iR(f:Nat->Nat->Int)(m:Nat):∀n,aR O (fun i=>aR O (fun j=>f i j) m) n=aR O (fun j=>aR O (fun i=>f i j) n) m
 |0=>(bK hO fun _ _=>rfl).symm
 |n+1=>by rw[aR,iR f m n,<-fP hO];exact aJ fun j _=>rfl
def ent(rows:LL)(i j:Nat):Int:=(rows.getD i []).getD j 0
def aV(O:aO)(rows:LL)(x:Nat->Int):Prop:=∃a:Nat->Int,∀j,x j=aR O (fun i=>O.mul (a i) (ent rows i j)) rows.length
theorem aV.zero(rows:LL):aV O rows fun _=>0:=⟨fun _=>0,fun j=>(bK hO fun i _=>hO.zero_mul _).symm⟩
theorem aV.add{rows:LL}{x y:Nat->Int}(B:aV O rows x)(C:aV O rows y):aV O rows fun j=>O.add (x j) (y j):=by obtain⟨a,A⟩:=B;obtain⟨b,hb⟩:=C;refine⟨fun i=>O.add (a i) (b i),fun j=>?_⟩;dsimp only;rw[A j,hb j,<-fP hO];exact aJ fun i _=>(hO.add_mul _ _ _).symm
theorem aV.smul{rows:LL}{x:Nat->Int}(c:Int)(B:aV O rows x):aV O rows fun j=>O.mul c (x j):=by obtain⟨a,A⟩:=B;refine⟨fun i=>O.mul c (a i),fun j=>?_⟩;dsimp only;rw[A j,dN hO];exact aJ fun i _=>(hO.mul_assoc _ _ _).symm
theorem aV.sum{rows:LL}{x:Nat->Nat->Int}:∀{n:Nat},(∀i,i<n->aV O rows (x i))->aV O rows fun j=>aR O (fun i=>x i j) n
 |0,_=>aV.zero hO rows
 |n+1,h=>(aV.sum fun i hi=>h i (by omega)).add hO (h n (by omega))
theorem aV.row{rows:LL}{k:Nat}(B:k<rows.length)(A:∀j,0<=ent rows k j/\ent rows k j<q):aV O rows (ent rows k):=by refine⟨fun i=>if i=k then 1 else 0,fun j=>?_⟩;rw[bP hO (k:=k) (by dsimp only;rw[if_pos rfl,hO.one_mul (A j).1 (A j).2];exact A j) B (fun i _ C=>by dsimp only;rw[if_neg C,hO.zero_mul])];dsimp only;rw[if_pos rfl,hO.one_mul (A j).1 (A j).2]
omit hO in
theorem aV.congr{rows:LL}{x y:Nat->Int}(B:aV O rows x)(h:∀j,y j=x j):aV O rows y:=by obtain⟨a,A⟩:=B;exact⟨a,fun j=>(h j).trans (A j)⟩
theorem aV.lt{rows:LL}{x:Nat->Int}(B:aV O rows x)(j:Nat):0<=x j/\x j<q:=by obtain⟨a,A⟩:=B;rw[A j];exact cW hO _ _
def dY(O:aO)(A B:LL):Prop:=∀i,i<A.length->aV O B (ent A i)
theorem aV.trans{A B:LL}(h:dY O A B){x:Nat->Int}(D:aV O A x):aV O B x:=by obtain⟨a,C⟩:=D;exact(aV.sum hO (x:=fun i j=>O.mul (a i) (ent A i j)) fun i hi=>(h i hi).smul hO (a i)).congr C
theorem dY.trans{A B C:LL}(h:dY O A B)(k:dY O B C):dY O A C:=fun i hi=>(h i hi).trans hO k
def gW(q:Int)(A:LL):Prop:=∀i j,0<=ent A i j/\ent A i j<q
omit hO in
theorem Rows.r{n:Nat}{A:LL}(h:Rows q n A)(hq:0<q):gW q A:=fun i j=>by
 unfold ent;by_cases hi:i<A.length
 .exact(h i hi).2 j
 .simp[List.getD,aY4 (show A.length<=i by omega)];exact hq
theorem dY.refl{A:LL}(h:gW q A):dY O A A:=fun i hi=>aV.row hO hi (h i)
omit hO in
theorem jG{l:LL}{k:Nat}{r:LI}(A:k<l.length)(i j:Nat):ent (l.set k r) i j=if k=i then r.getD j 0 else ent l i j:=by
 unfold ent;rw[cE];by_cases e:k=i
 .subst e;rw[if_pos ⟨rfl,A⟩,if_pos rfl]
 .rw[if_neg (fun h=>e h.1),if_neg e]
omit hO in
theorem zD{l:LL}{i:Nat}(h:l.length<=i)(j:Nat):ent l i j=0:=by unfold ent;rw[aZ4 (l:=l),aY4 h];rfl
omit hO in
theorem kK{n:Nat}{l:LL}(h:Rows q n l){i j:Nat}(A:n<=j):ent l i j=0:=by
 by_cases hi:i<l.length
 .unfold ent;exact aW (by rw[(h i hi).1];exact A)
 .exact zD (by omega) j
theorem AM{l:LL}(B:gW q l){k:Nat}(A:k<l.length){r:LI}(h:aV O l fun j=>r.getD j 0):dY O (l.set k r) l:=fun i hi=>by
 rw[aZ9] at hi;by_cases e:k=i
 .subst e;exact h.congr fun j=>by rw[jG A,if_pos rfl]
 .exact(aV.row hO hi (B i)).congr fun j=>by rw[jG A,if_neg e]
theorem zI{l:LL}{k:Nat}(A:k<l.length){r:LI}(B:gW q (l.set k r))(h:aV O (l.set k r) (ent l k)):dY O l (l.set k r):=fun i hi=>by
 by_cases e:k=i
 .subst e;exact h
 .exact(aV.row hO (k:=i) (by rw[aZ9];exact hi) (B i)).congr fun j=>by rw[jG A,if_neg e]
theorem qC{v u:LI}(a:Int)(A:∀i,0<=v.getD i 0/\v.getD i 0<q)(C:u.length<=v.length)(j:Nat):(cH O v a u).getD j 0=O.add (v.getD j 0) (O.mul a (u.getD j 0)):=by
 by_cases B:j<v.length
 .rw[cH,aS B];by_cases e:u.getD j 0=0
  .rw[if_neg (by simpa using e),e,hO.mul_zero,hO.add_zero _ (A j).1 (A j).2]
  .rw[if_pos e]
 .rw[aW (by rw[iK];omega),aW (a:=v) (by omega),aW (a:=u) (by omega),hO.mul_zero,hO.zero_zero]
theorem jB(a:Int)(v:LI)(j:Nat):(bR O a v).getD j 0=O.mul a (v.getD j 0):=by
 by_cases A:j<v.length
 .rw[bR,aS A]
 .unfold bR;rw[aW (by rw[aT];omega),aW (a:=v) (by omega),hO.mul_zero]
def gV(O:aO)(A B:LL):Prop:=dY O A B/\dY O B A
theorem gV.refl{A:LL}(h:gW q A):gV O A A:=⟨dY.refl hO h,dY.refl hO h⟩
theorem gV.trans{A B C:LL}(h:gV O A B)(k:gV O B C):gV O A C:=⟨h.1.trans hO k.1,k.2.trans hO h.2⟩
theorem gV.span{A B:LL}(h:gV O A B)(x:Nat->Int):aV O A x↔aV O B x:=⟨aV.trans hO h.1,aV.trans hO h.2⟩
omit hO in
theorem mF{l:LL}{a b:Nat}(A:a<l.length)(hb:b<l.length)(i j:Nat):ent (cF l a b) i j=if b=i then ent l a j else if a=i then ent l b j else ent l i j:=by unfold cF;rw[jG (by rw[aZ9];exact hb),jG A];rfl
theorem KG{n:Nat}{l:LL}(h:Rows q n l){a b:Nat}(B:a<l.length)(hb:b<l.length):gV O (cF l a b) l:=by
 have C:=h.r (by have:=hO.lt.pos;omega);have D:=(h.swap B hb).r (by have:=hO.lt.pos;omega);constructor
 .intro i hi;rw[eH] at hi;by_cases e:b=i
  .exact(aV.row hO B (C a)).congr fun j=>by rw[mF B hb,if_pos e]
  .by_cases A:a=i
   .exact(aV.row hO hb (C b)).congr fun j=>by rw[mF B hb,if_neg e,if_pos A]
   .exact(aV.row hO hi (C i)).congr fun j=>by rw[mF B hb,if_neg e,if_neg A]
 .intro i hi;by_cases e:b=i
  .refine(aV.row hO (k:=a) (by rw[eH];exact B) (D a)).congr fun j=>?_;rw[mF B hb];by_cases A:b=a
   .rw[if_pos A,<-e,A]
   .rw[if_neg A,if_pos rfl,e]
  .by_cases A:a=i
   .exact(aV.row hO (k:=b) (by rw[eH];exact hb) (D b)).congr fun j=>by rw[mF B hb,if_pos rfl,A]
   .exact(aV.row hO (k:=i) (by rw[eH];exact hi) (D i)).congr fun j=>by rw[mF B hb,if_neg e,if_neg A]
theorem GI{n:Nat}{l:LL}(h:Rows q n l)(c:Nat){a:Nat}(A:a<l.length)(D:ent l a c≠0):gV O (cP O c a l) l:=by
 have B:=h.r (by have:=hO.lt.pos;omega);have hm:=(Rows.monic hO.lt h c A).r (by have:=hO.lt.pos;omega)
 revert hm
 unfold cP;split
 .intro hm;have C:=B a c;have hi:=hO.mul_inv (ent l a c) (by omega) C.2;refine⟨AM hO B A (((aV.row hO A (B a)).smul hO (O.inv (ent l a c))).congr fun j=>by rw[jB hO];rfl),zI hO A hm ?_⟩;refine((aV.row hO (k:=a) (by rw[aZ9];exact A) (hm a)).smul hO (ent l a c)).congr fun j=>?_;rw[jG A,if_pos rfl,jB hO,<-hO.mul_assoc];rw[show O.mul (ent l a c) (O.inv ((l.getD a []).getD c 0))=1 from hi];exact(hO.one_mul (B a j).1 (B a j).2).symm
 .intro _;exact gV.refl hO B
theorem M9(c:Nat){a:Nat}{l:LL}(B:a<l.length)(i j:Nat):
  ent (cP O c a l) i j=if a=i/\ent l a c≠1 then O.mul (O.inv (ent l a c)) (ent l a j) else ent l i j:=by
 unfold cP;by_cases e:ent l a c=1
 .rw[if_neg (show ¬(l.getD a []).getD c 0≠1 from fun h=>h e),if_neg (fun h=>h.2 e)]
 .rw[if_pos (show(l.getD a []).getD c 0≠1 from e),jG B];by_cases A:a=i
  .rw[if_pos A,if_pos ⟨A,e⟩,jB hO];rfl
  .rw[if_neg A,if_neg (fun h=>A h.1)]
theorem IW{n:Nat}{l:LL}(h:Rows q n l)(c:Nat){a i:Nat}(C:a<l.length)(hi:i<l.length)(D:i≠a):
  (∀k j,ent (l.set i (cH O (l.getD i []) (O.neg (ent l i c)) (l.getD a []))) k j=if i=k then O.add (ent l i j) (O.mul (O.neg (ent l i c)) (ent l a j)) else ent l k j)/\
  gV O (l.set i (cH O (l.getD i []) (O.neg (ent l i c)) (l.getD a []))) l:=by
 have A:=h.r (by have:=hO.lt.pos;omega);have B:∀j,(cH O (l.getD i []) (O.neg (ent l i c)) (l.getD a [])).getD j 0=O.add (ent l i j) (O.mul (O.neg (ent l i c)) (ent l a j)):=fun j=>qC hO _ (h i hi).2 (by rw[(h i hi).1,(h a C).1];exact Nat.le_refl _) j;have hm:gW q (l.set i (cH O (l.getD i []) (O.neg (ent l i c)) (l.getD a []))):=fun k j=>by
  rw[jG hi];split
  .rw[B];exact hO.lt.add _ _
  .exact A k j
 have hA:∀j,ent (l.set i (cH O (l.getD i []) (O.neg (ent l i c)) (l.getD a []))) a j=ent l a j:=fun j=>by rw[jG hi,if_neg D]
 refine⟨fun k j=>?_,AM hO A hi (((aV.row hO hi (A i)).add hO ((aV.row hO C (A a)).smul hO (O.neg (ent l i c)))).congr B),zI hO hi hm ?_⟩
 .rw[jG hi,B]
 .refine((aV.row hO (k:=i) (by rw[aZ9];exact hi) (hm i)).add hO ((aV.row hO (k:=a) (by rw[aZ9];exact C) (hm a)).smul hO (ent l i c))).congr fun j=>?_;rw[hA,jG hi,if_pos rfl,B,hO.add_assoc,<-hO.add_mul,hO.neg_add,hO.zero_mul,hO.add_zero _ (A i j).1 (A i j).2]
theorem yQ{n:Nat}{l:LL}(h:Rows q n l)(c:Nat){a:Nat}(F:a<l.length):∀i,i<=l.length->
  gV O (aU O c a l i) l/\∀k j,ent (aU O c a l i) k j=if k<i/\k≠a/\ent l k c≠0 then O.add (ent l k j) (O.mul (O.neg (ent l k c)) (ent l a j)) else ent l k j
 |0,_=>⟨gV.refl hO (h.r (by have:=hO.lt.pos;omega)),fun k j=>by rw[if_neg (fun h=>absurd h.1 (by omega))];rfl⟩
 |i+1,hi=>by
  obtain⟨E,D⟩:=yQ h c F i (by omega);have hR:=Rows.clear hO.lt h c a i (by omega);have G:=fW O c a l i;have C:∀j,ent (aU O c a l i) i j=ent l i j:=fun j=>by rw[D i j,if_neg (fun h=>absurd h.1 (by omega))]
  have H:∀j,ent (aU O c a l i) a j=ent l a j:=fun j=>by rw[D a j,if_neg (fun h=>h.2.1 rfl)]
  rw[aU];by_cases B:i≠a/\((aU O c a l i).getD i []).getD c 0≠0
  .rw[if_pos B];have K:ent l i c≠0:=by rw[<-C];exact B.2
   obtain⟨I,J⟩:=IW hO hR c (a:=a) (i:=i) (by rw[G];exact F) (by rw[G];omega) B.1;refine⟨J.trans hO E,fun k j=>?_⟩;rw[show((aU O c a l i).getD i []).getD c 0=ent (aU O c a l i) i c from rfl,I k j];by_cases e:i=k
   .subst e;rw[if_pos rfl,if_pos ⟨by omega,B.1,K⟩,C,C,H]
   .rw[if_neg e,D k j];by_cases A:k<i/\k≠a/\ent l k c≠0
    .rw[if_pos A,if_pos ⟨by omega,A.2⟩]
    .rw[if_neg A,if_neg (fun h=>A ⟨by omega,h.2⟩)]
  .rw[if_neg B];refine⟨E,fun k j=>?_⟩;rw[D k j];by_cases e:i=k
   .subst e;rw[if_neg (fun h=>absurd h.1 (by omega)),if_neg (fun h=>B ⟨h.2.1,by rw[show((aU O c a l i).getD i []).getD c 0=ent (aU O c a l i) i c from rfl,C];exact h.2.2⟩)]
   .by_cases A:k<i/\k≠a/\ent l k c≠0
    .rw[if_pos A,if_pos ⟨by omega,A.2⟩]
    .rw[if_neg A,if_neg (fun h=>A ⟨by omega,h.2⟩)]
end
end Go.Proofs.YtpfhoemohibniaaGreatDoor
namespace Go.Proofs.YtpfhoemohibniaaGreatDoor
open Go.RowKit
theorem iV(w:World)(v:Value)(xs:LI)(h:SI w v xs):Calls Tryz.prog 21 #[v] w (pX w xs):=by
 have G:=zh h;obtain⟨A,c,rfl,h⟩:=h;have H:=h.len;cases A with
 |none=>
  have C:xs=[]:=by
   rcases Nat.eq_zero_or_pos xs.length with C|C
   .exact List.eq_nil_of_length_eq_zero C
   .obtain⟨_,e,_⟩:=h.cell 0 C;cases e
  subst C;clear h;have I:=fun(w:World) (l c:Nat)=>run_eql_slice_nil (P:=Tryz.prog) w 22 3 none l c Tryz.underlying22;go_enter Tryz.func21,Tryz.ntmps21;go_wp2_with fail;go_ret;exact⟨_,rfl,OI.nil _ _,bE _⟩
 |some ad=>
  clear h;have I:=fun(w:World) (l c:Nat)=>run_eql_slice_nil (P:=Tryz.prog) w 22 3 (some ad) l c Tryz.underlying22;go_enter Tryz.func21,Tryz.ntmps21;go_wp2_with (first|(at_builtin;refine dW rfl _ _ rfl w.heap.size _ _ rfl (OI.empty w zr) _ xs rfl (G.below (aF _ _) zr) (by simpa using H) (by simp) ?_;intro J w1 D hg _))
  have F:=zh D;have E:=zh ((OI.empty (B:=w.heap.size) w zr).bgrown (aF _ _) (by simp) hg);clear D hg;go_wp2_with fail;go_ret;exact⟨_,rfl,by simpa using F.out,E.out⟩
end Go.Proofs.YtpfhoemohibniaaGreatDoor
namespace Go.Proofs.YtpfhoemohibniaaGreatDoor
def pvt(p:LI)(i:Nat):Nat:=(p.getD i 0).toNat
structure Ech(l:LL)(p:LI)(c:Nat):Prop where
 len:p.length<=l.length
 nn:∀i,i<p.length->p.getD i 0=(pvt p i:Int)
 lt:∀i,i<p.length->pvt p i<c
 inc:∀i k,i<k->k<p.length->pvt p i<pvt p k
 one:∀i,i<p.length->ent l i (pvt p i)=1
 off:∀i,i<p.length->∀k,k≠i->ent l k (pvt p i)=0
 low:∀i,i<p.length->∀j,j<pvt p i->ent l i j=0
 rest:∀k,p.length<=k->∀j,j<c->ent l k j=0
theorem zF(l:LL)(c n:Nat):∀f k,k+f=n->(dG l c n f k=n/\∀i,k<=i->i<n->ent l i c=0)\/(dG l c n f k<n/\k<=dG l c n f k/\ent l (dG l c n f k) c≠0)
 |0,k,h=>.inl ⟨by unfold dG;omega,fun i A B=>by omega⟩
 |f+1,k,h=>by
  unfold dG;by_cases e:(l.getD k []).getD c 0=0
  .rw[if_pos e];rcases zF l c n f (k+1) (by omega) with⟨A,B⟩|⟨A,B,D⟩
   .refine .inl ⟨A,fun i F E=>?_⟩;by_cases C:i=k
    .subst C;exact e
    .exact B i (by omega) E
   .exact .inr ⟨A,by omega,D⟩
  .rw[if_neg e];exact .inr ⟨by omega,Nat.le_refl _,e⟩
theorem jK{p:LI}{c i:Nat}:pvt (p++[(c:Int)]) i=if i<p.length then pvt p i else if i=p.length then c else 0:=by
 unfold pvt;by_cases h:i<p.length
 .rw[if_pos h];simp[List.getD,aY2 h]
 .rw[if_neg h];by_cases e:i=p.length
  .subst e;simp[List.getD]
  .rw[if_neg e];rw[aZ4,aY4 (by simp;omega)];rfl
section
variable {O:aO} {q:Int} (hO:O.Fld q)
include hO
theorem TJ{n:Nat}{l:LL}{p:LI}{c k:Nat}(h:Rows q n l)(B:Ech l p c)(C:p.length<l.length)(W:p.length<=k)(L:k<l.length)(o:ent l k c≠0):
   Ech (iA O c l p.length k) (p++[(c:Int)]) (c+1)/\gV O (iA O c l p.length k) l:=by
 have hq:=hO.lt.pos;have u:=h.r (by omega);have J:=h.swap C L;have F:=eH l p.length k;have w:=J.r (by omega);have g:=KG hO h C L;have Q:=fun i j=>mF (l:=l) C L i j;have G:∀j,ent (cF l p.length k) p.length j=ent l k j:=fun j=>by
   rw[Q];by_cases e:k=p.length
   . rw[if_pos e,e]
   . rw[if_neg e,if_pos rfl]
 have T:=Rows.monic hO.lt J c (a:=p.length) (by rw[F];exact C);have f:=jV O c p.length (cF l p.length k);have U:=T.r (by omega);have d:=GI hO J c (a:=p.length) (by rw[F];exact C) (by rw[G];exact o);have H:=fun i j=>M9 hO c (a:=p.length) (l:=cF l p.length k) (by rw[F];exact C) i j
 --the pivot's row
 have V:ent (cP O c p.length (cF l p.length k)) p.length c=1:=by
   rw[H,G];by_cases e:ent l k c=1
   . rw[if_neg (fun h=>h.2 e)];exact e
   . rw[if_pos ⟨rfl,e⟩,hO.mul_comm];have:=u k c;exact hO.mul_inv _ (by omega) this.2
 have K:∀j,j<c->ent (cP O c p.length (cF l p.length k)) p.length j=0:=fun j A=>by rw[H,G,G,B.rest k W j A,hO.mul_zero];split<;>rfl
 have t:∀i j,j<c->ent (cP O c p.length (cF l p.length k)) i j=ent l i j:=fun i j A=>by
   by_cases e:p.length=i
   . subst e;rw[K j A,B.rest _ zr j A]
   . rw[H,if_neg (fun h=>e h.1),Q];by_cases P:k=i
     . subst P;rw[if_pos rfl,B.rest _ zr j A,B.rest _ W j A]
     . rw[if_neg P,if_neg e]
 have I:(cP O c p.length (cF l p.length k)).length=l.length:=by rw[f,F]
 obtain⟨S,D⟩:=yQ hO T c (a:=p.length) (by rw[I];exact C) l.length (by rw[I];exact Nat.le_refl _);have v:iA O c l p.length k=aU O c p.length (cP O c p.length (cF l p.length k)) l.length:=rfl;rw[<-v] at S D;have E:∀i j,j<c->ent (iA O c l p.length k) i j=ent l i j:=fun i j A=>by rw[D,K j A,hO.mul_zero,hO.add_zero _ (U i j).1 (U i j).2,t i j A];split<;>rfl
 have R:∀j,ent (iA O c l p.length k) p.length j=ent (cP O c p.length (cF l p.length k)) p.length j:=fun j=>by rw[D,if_neg (fun h=>h.2.1 rfl)]
 have N:∀i,i≠p.length->ent (iA O c l p.length k) i c=0:=fun i hi=>by
   rw[D];by_cases e:ent (cP O c p.length (cF l p.length k)) i c=0
   . rw[if_neg (fun h=>h.2.2 e),e]
   . have m:i<l.length:=by
       refine Decidable.byContradiction fun x=>e ?_;exact zD (by rw[I];omega) c
     rw[if_pos ⟨m,hi,e⟩,V,hO.mul_one _ (hO.neg_lt _).1 (hO.neg_lt _).2,hO.add_neg]
 have s:=DF O c l p.length k;refine⟨⟨by rw[aZ1,aZ2,s];omega,fun i hi=>?_,fun i hi=>?_,fun i Y Z b=>?_,fun i hi=>?_,fun i hi M X=>?_,fun i hi j A=>?_,fun i hi j A=>?_⟩,S.trans hO (d.trans hO g)⟩
 . rw[aZ1,aZ2] at hi;rw[jK];by_cases e:i<p.length
   . rw[if_pos e,<-B.nn i e];simp[List.getD,aY2 e]
   . obtain rfl:i=p.length:=by omega
     rw[if_neg e,if_pos rfl];simp[List.getD]
 . rw[aZ1,aZ2] at hi;rw[jK];by_cases e:i<p.length
   . rw[if_pos e];have:=B.lt i e;omega
   . rw[if_neg e,if_pos (by omega)];omega
 . rw[aZ1,aZ2] at b;rw[jK,jK,if_pos (by omega:i<p.length)];by_cases e:Y<p.length
   . rw[if_pos e];exact B.inc i Y Z e
   . rw[if_neg e,if_pos (by omega)];exact B.lt i (by omega)
 . rw[aZ1,aZ2] at hi;rw[jK];by_cases e:i<p.length
   . rw[if_pos e,E i _ (B.lt i e),B.one i e]
   . obtain rfl:i=p.length:=by omega
     rw[if_neg e,if_pos rfl,R,V]
 . rw[aZ1,aZ2] at hi;rw[jK];by_cases e:i<p.length
   . rw[if_pos e,E M _ (B.lt i e),B.off i e M X]
   . obtain rfl:i=p.length:=by omega
     rw[if_neg e,if_pos rfl,N M X]
 . rw[aZ1,aZ2] at hi;rw[jK] at A;by_cases e:i<p.length
   . rw[if_pos e] at A;rw[E i j (by have:=B.lt i e;omega),B.low i e j A]
   . obtain rfl:i=p.length:=by omega
     rw[if_neg e,if_pos rfl] at A;rw[R,K j A]
 . rw[aZ1,aZ2] at hi;by_cases e:j<c
   . rw[E i j e,B.rest i (by omega) j e]
   . obtain rfl:j=c:=by omega
     exact N i (by omega)
theorem uG{n:Nat}{rows:LL}(h:Rows q n rows):∀c,Ech (aI O rows c).1 (aI O rows c).2 c/\gV O (aI O rows c).1 rows
 |0=>⟨⟨aZ5 _,fun i hi=>absurd hi (by simp[aI]),fun i hi=>absurd hi (by simp[aI]),fun i k _ hi=>absurd hi (by simp[aI]),fun i hi=>absurd hi (by simp[aI]),fun i hi=>absurd hi (by simp[aI]),fun i hi=>absurd hi (by simp[aI]),fun k _ j D=>absurd D (by omega)⟩,gV.refl hO (h.r (by have:=hO.lt.pos;omega))⟩
 |c+1=>by
  obtain⟨A,hA⟩:=uG h c;have hR:=Rows.elim hO.lt h c;have K:=A.len;rw[aI];by_cases F:(aI O rows c).2.length<(aI O rows c).1.length
  .rw[if_pos F];rcases zF (aI O rows c).1 c (aI O rows c).1.length ((aI O rows c).1.length-(aI O rows c).2.length) (aI O rows c).2.length (by omega) with⟨B,C⟩|⟨B,C,I⟩
   .rw[if_pos B];refine⟨⟨A.len,A.nn,fun i hi=>by have:=A.lt i hi;omega,A.inc,A.one,A.off,A.low,fun k E j D=>?_⟩,hA⟩;by_cases e:j<c
    .exact A.rest k E j e
    .obtain rfl:j=c:=by omega
     by_cases J:k<(aI O rows j).1.length
     .exact C k E J
     .exact zD (by omega) j
   .rw[if_neg (by omega)];obtain⟨G,H⟩:=TJ hO hR A F C B I;exact⟨G,H.trans hO hA⟩
  .rw[if_neg F];refine⟨⟨A.len,A.nn,fun i hi=>by have:=A.lt i hi;omega,A.inc,A.one,A.off,A.low,fun k E j D=>?_⟩,hA⟩;exact zD (by omega) j
structure dP(O:aO)(q:Int)(n:Nat)(A:LL)(p:LI):Prop where
 rows:Rows q n A
 len:p.length=A.length
 nn:∀i,i<A.length->p.getD i 0=(pvt p i:Int)
 lt:∀i,i<A.length->pvt p i<n
 inc:∀i k,i<k->k<A.length->pvt p i<pvt p k
 one:∀i,i<A.length->ent A i (pvt p i)=1
 off:∀i,i<A.length->∀k,k≠i->ent A k (pvt p i)=0
 low:∀i,i<A.length->∀j,j<pvt p i->ent A i j=0
omit hO in
theorem QS{l:LL}{r i:Nat}(h:i<r)(j:Nat):ent (l.take r) i j=ent l i j:=by unfold ent;congr 1;simp[List.getD,List.getElem?_take,h]
theorem bX{n:Nat}{rows:LL}(h:Rows q n rows):dP O q n (bC O rows n) (jX O rows n)/\gV O (bC O rows n) rows:=by
 obtain⟨A,hA⟩:=uG hO h n;have hR:=Rows.elim hO.lt h n;have hq:=hO.lt.pos;have F:(bC O rows n).length=(aI O rows n).2.length:=by unfold bC;rw[aY3];have:=A.len;omega
 have C:∀i j,i<(aI O rows n).2.length->ent (bC O rows n) i j=ent (aI O rows n).1 i j:=fun i j hi=>QS hi j;have G:∀i j,(aI O rows n).2.length<=i->ent (aI O rows n).1 i j=0:=fun i j hi=>by
  by_cases D:j<n
  .exact A.rest i hi j D
  .exact kK hR (by omega)
 have E:Rows q n (bC O rows n):=fun k B=>by
  rw[F] at B;have e:(bC O rows n).getD k []=(aI O rows n).1.getD k []:=by unfold bC;simp[List.getD,List.getElem?_take,B]
  rw[e];exact hR k (by have:=A.len;omega)
 refine⟨⟨E,F.symm,fun i hi=>A.nn i (by omega),fun i hi=>A.lt i (by omega),fun i k H J=>A.inc i k H (by omega),fun i hi=>?_,fun i hi k I=>?_,fun i hi j D=>?_⟩,gV.trans hO ⟨fun i hi=>?_,fun i hi=>?_⟩ hA⟩
 .rw[C _ _ (by omega)];exact A.one i (by omega)
 .by_cases B:k<(aI O rows n).2.length
  .rw[C _ _ B];exact A.off i (by omega) k I
  .exact zD (by omega) _
 .rw[C _ _ (by omega)];exact A.low i (by omega) j D
 .exact(aV.row hO (by have:=A.len;omega) (hR.r (by omega) i)).congr fun j=>C i j (by omega)
 .by_cases B:i<(aI O rows n).2.length
  .exact(aV.row hO (by omega) (E.r (by omega) i)).congr fun j=>(C i j B).symm
  .exact(aV.zero hO _).congr fun j=>G i j (by omega)
section
variable {n:Nat} {A:LL} {p:LI} (hA:dP O q n A p)
include hA
theorem dP.r:gW q A:=hA.rows.r (by have:=hO.lt.pos;omega)
theorem dP.coef{a:Nat->Int}{i:Nat}(hi:i<A.length)(B:0<=a i/\a i<q):aR O (fun k=>O.mul (a k) (ent A k (pvt p i))) A.length=a i:=by
 have e:O.mul (a i) (ent A i (pvt p i))=a i:=by rw[hA.one i hi,hO.mul_one _ B.1 B.2]
 rw[bP hO (k:=i) (by rw[e];exact B) hi (fun k _ C=>by rw[hA.off i hi k C,hO.mul_zero]),e]
theorem dP.mem{x:Nat->Int}:aV O A x↔∀j,x j=aR O (fun i=>O.mul (x (pvt p i)) (ent A i j)) A.length:=by
 constructor
 .rintro ⟨a,B⟩ j;rw[B j];refine aJ fun i hi=>?_
  --the coefficient counts only as an element
  have C:x (pvt p i)=O.mul (a i) 1:=by
   rw[B];have e:O.mul (a i) (ent A i (pvt p i))=O.mul (a i) 1:=by rw[hA.one i hi]
   rw[bP hO (k:=i) (hO.lt.mul _ _) hi (fun k _ D=>by rw[hA.off i hi k D,hO.mul_zero]),e]
  rw[C,hO.mul_assoc,hO.one_mul (hA.r hO i j).1 (hA.r hO i j).2]
 .intro h;exact⟨fun i=>x (pvt p i),h⟩
theorem dP.lead{x:Nat->Int}(F:aV O A x){k:Nat}(B:∀j,j<k->x j=0)(C:x k≠0):∃i,i<A.length/\pvt p i=k:=by
 refine Decidable.byContradiction fun E=>C ?_;rw[(hA.mem hO).1 F k];refine bK hO fun i hi=>?_;by_cases D:pvt p i<k
 .rw[B _ D,hO.zero_mul]
 .have G:pvt p i≠k:=fun e=>E ⟨i,hi,e⟩;rw[hA.low i hi k (by omega),hO.mul_zero]
end
theorem G9{n:Nat}{A B:LL}{p C:LI}(hA:dP O q n A p)(hB:dP O q n B C)(h:gV O A B):A=B:=by
 have key:∀{A B:LL} {p C:LI},dP O q n A p->dP O q n B C->dY O A B->∀i,i<A.length->∃k,k<B.length/\pvt C k=pvt p i:=by intro A B p C hA hB hI i hi;exact hB.lead hO (hI i hi) (fun j V=>hA.low i hi j V) (by rw[hA.one i hi];decide)
 have F:=key hA hB h.1;have G:=key hB hA h.2;have Y:∀{A:LL} {p:LI},dP O q n A p->∀i k,i<A.length->k<A.length->pvt p i=pvt p k->i=k:=by
  intro A p hA i k hi E e;rcases Nat.lt_trichotomy i k with D|D|D
  .have:=hA.inc i k D E;omega
  .exact D
  .have:=hA.inc k i D hi;omega
 have order:∀{A B:LL} {p C:LI},dP O q n A p->dP O q n B C->(∀i,i<A.length->∃k,k<B.length/\pvt C k=pvt p i)->(∀i,i<B.length->∃k,k<A.length/\pvt p k=pvt C i)->∀i,i<A.length->i<B.length/\pvt C i=pvt p i:=by
  intro A B p C hA hB F G i
  induction i using Nat.strongRecOn with
  |ind i ih=>
   intro hi;obtain⟨k,E,e⟩:=F i hi;have d:i<=k:=by refine Decidable.byContradiction fun J=>?_;obtain⟨_,L⟩:=ih k (by omega) (by omega);have:=Y hA k i (by omega) hi (by omega);omega
   by_cases W:i=k
   .subst W;exact⟨E,e⟩
   .exfalso;have N:i<B.length:=by omega
    have J:=hB.inc i k (by omega) E;obtain⟨m,hm,a⟩:=G i N;have P:m<i:=by
     refine Decidable.byContradiction fun c=>?_;by_cases R:m=i
     .subst R;omega
     .have:=hA.inc i m (by omega) hm;omega
    obtain⟨_,b⟩:=ih m P hm;have:=hB.inc m i P N;omega
 have K:=order hA hB F G;have f:A.length<=B.length:=by refine Decidable.byContradiction fun J=>?_;have:=K B.length (by omega);omega
 have Z:=order hB hA G F;have g:B.length<=A.length:=by refine Decidable.byContradiction fun J=>?_;have:=Z A.length (by omega);omega
 have D:A.length=B.length:=by omega
 have U:∀i,i<A.length->∀j,ent A i j=ent B i j:=by
  intro i hi j;rw[(hB.mem hO).1 (h.1 i hi) j];have e:O.mul (ent A i (pvt C i)) (ent B i j)=ent B i j:=by rw[(K i hi).2,hA.one i hi,hO.one_mul (hB.r hO i j).1 (hB.r hO i j).2]
  rw[bP hO (k:=i) (by rw[e];exact hB.r hO i j) (by omega) (fun k E X=>by rw[(K k (by omega)).2,hA.off k (by omega) i (fun e=>X e.symm),hO.zero_mul]),e]
 refine List.ext_getElem D fun i H M=>?_;have Q:=(hA.rows i H).1;have L:=(hB.rows i M).1;have I:=U i H;unfold ent at I;simp only[aZ4 (l:=A),aZ4 (l:=B),aZ3 H,aZ3 M,Option.getD_some] at Q L I;refine List.ext_getElem (by omega) fun j S T=>?_;have:=I j;simpa[List.getD,S,T] using this
theorem yM{n:Nat}{A:LL}{p:LI}(hA:dP O q n A p):bC O A n=A:=by obtain⟨B,C⟩:=bX hO hA.rows;exact G9 hO B hA C
end
end Go.Proofs.YtpfhoemohibniaaGreatDoor
namespace Go.Proofs.YtpfhoemohibniaaGreatDoor
open Go.RowKit
def BB(q k:Nat):Int:=if q^k<=65536 then((q^k:Nat):Int) else 0
def xJ(q k:Nat):Int:=if q^k<=65536 then 0 else 8
theorem K4{m q o:Nat}(hq:0<q):(m:Int)/(q:Int)<(o:Int)↔m<o*q:=by rw[<-Int.natCast_ediv,Int.ofNat_lt,Nat.div_lt_iff_lt_mul hq]
theorem UL(q k i o:Nat)(hq:2<=q)(B:o=q^i)(hi:i<k)(h:(65536:Int)/(q:Int)<(o:Int)):BB q k=0/\xJ q k=8:=by have C:65536<o*q:=(K4 (m:=65536) (by omega)).1 h;have A:q^(i+1)<=q^k:=Nat.pow_le_pow_right (by omega) hi;rw[Nat.pow_succ,<-B] at A;unfold BB xJ;exact⟨if_neg (by omega),if_neg (by omega)⟩
theorem QU(q o:Nat)(hq:2<=q)(h:¬(65536:Int)/(q:Int)<(o:Int)):o*q<=65536:=by have A:¬65536<o*q:=fun e=>h ((K4 (m:=65536) (by omega)).2 e);exact Nat.le_of_not_lt A
theorem UM(q k o:Nat)(A:o=q^k)(h:o<=65536):BB q k=(o:Int)/\xJ q k=0:=by unfold BB xJ;rw[<-A];exact⟨if_pos h,if_pos h⟩
theorem K2(w:World)(q k:Nat)(D:2<=q)(L:q<=256)(P:k<=256):Calls Tryz.prog 120 #[.int .i64 (q:Int),.int .i64 (k:Int),.int .i64 65536] w (fun e w'=>e=.returned (.tuple #[.int .i64 (BB q k),.int .i64 (xJ q k)])/\w=w'):=by
 have E:=zh (UL q k);have F:=zh (UM q k);have I:=zh (QU q);go_enter Tryz.func120,Tryz.ntmps120;go_wp2_with fail;go_loop [1,8] (fun i s=>∃j o:Nat,j<=k/\i=.int .i64 (j:Int)/\s=.int .i64 (o:Int)/\Hid (o=q^(k-j))/\o<=65536) (fun i _=>(intOf i).toNat)
 case atStart=>exact⟨k,1,Nat.le_refl _,rfl,rfl,aD (by rw[Nat.sub_self];rfl),by omega⟩
 case round=>
  obtain⟨j,o,N,rfl,rfl,B,J⟩:=hrel;by_cases O:0<j
  .by_cases hb:(65536:Int)/(q:Int)<(o:Int)
   .have A:=zh (E _ _ D B (by omega) hb);go_wp2_with fail;go_ret2;exact⟨by rw[A.out.1,A.out.2];rfl,rfl⟩
   .have M:¬(65536:Int)/(q:Int)<(o:Int):=hb;have G:Hid (∃p:Nat,p=o*q/\p<=65536):=aD ⟨_,rfl,I.out _ D (by omega)⟩;obtain⟨p,C,K⟩:=G.out;have H:=zh C;have Q:(o:Int)*(q:Int)=(p:Int):=by rw[C];exact(Int.natCast_mul _ _).symm
    have R:=IntWalk.i64_in (p:Int) (by omega);clear C;go_wp2_with fail;go_round
    case rel=>exact⟨j-1,p,by omega,by go_num,rfl,aD (by rw[H.out,B.out,<-Nat.pow_succ];congr 1;omega),K⟩
    case measure=>simp[intOf];omega
  .have e:j=0:=by omega
   subst e;have A:=zh (F _ B J);go_wp2_with fail;go_ret2;exact⟨by rw[A.out.1,A.out.2];rfl,rfl⟩
structure Off(X:Nat->Prop)(W W':World):Prop where
 os:W'.os=W.os
 tape:W'.tape=W.tape
 output:W'.output=W.output
 size:W.heap.size<=W'.heap.size
 block:∀i,i<W.heap.size->¬X i->W'.heap[i]?=W.heap[i]?
structure On(X:Nat->Prop)(W W':World):Prop where
 os:W'.os=W.os
 tape:W'.tape=W.tape
 output:W'.output=W.output
 size:W.heap.size<=W'.heap.size
 block:∀i,X i->W'.heap[i]?=W.heap[i]?
theorem Off.refl(X:Nat->Prop)(W:World):Off X W W:=⟨rfl,rfl,rfl,Nat.le_refl _,fun _ _ _=>rfl⟩
theorem Off.trans{X:Nat->Prop}{A B C:World}(h:Off X A B)(k:Off X B C):Off X A C:=
 ⟨k.os.trans h.os,k.tape.trans h.tape,k.output.trans h.output,aZ6 h.size k.size,fun i hi D=>(k.block i (aY1 hi h.size) D).trans (h.block i hi D)⟩
theorem Off.mono{X Y:Nat->Prop}{A B:World}(h:Off X A B)(C:∀i,i<A.heap.size->X i->Y i):Off Y A B:=⟨h.os,h.tape,h.output,h.size,fun i hi hn=>h.block i hi fun k=>hn (C i hi k)⟩
theorem Off.on{X Y:Nat->Prop}{A B:World}(h:Off X A B)(C:∀i,Y i->i<A.heap.size/\¬X i):On Y A B:=⟨h.os,h.tape,h.output,h.size,fun i hi=>h.block i (C i hi).1 (C i hi).2⟩
theorem oW{X:Nat->Prop}{A B:World}(h:Below A.heap.size A B):Off X A B:=⟨h.os,h.tape,h.output,h.size,fun i hi _=>h.block i hi⟩
theorem Off.setCell{X:Nat->Prop}(W:World)(p:Addr)(v:Value)(A:p.block<W.heap.size->X p.block):Off X W (W.setCell p v):=
 ⟨rfl,rfl,rfl,by show W.heap.size<=(W.heap.modify _ _).size;rw[Array.size_modify];exact Nat.le_refl _,fun i hi B=>Below.heap_setCell W p v i fun e=>by subst e;exact B (A hi)⟩
theorem Off.putObj{X:Nat->Prop}(W:World)(r:Nat)(o:Obj)(A:X r):Off X W (W.putObj r o):=
 ⟨rfl,rfl,rfl,by simp,fun i _ B=>World.putObj_heap_other fun e=>B (by subst e;exact A)⟩
theorem On.mono{X Y:Nat->Prop}{A B:World}(h:On X A B)(C:∀i,Y i->X i):On Y A B:=⟨h.os,h.tape,h.output,h.size,fun i hi=>h.block i (C i hi)⟩
structure pT(J:Nat->(Nat->Prop)->World->Prop):Prop where
 on:∀k X W W',J k X W->On X W W'->J k X W'
 lt:∀k X W,J k X W->∀i,X i->i<W.heap.size
def E2(Kp:Nat->Prop)(W A:World):Prop:=∀i,Kp i->A.heap[i]?=W.heap[i]?
def yD(Kp:Nat->Prop)(J C:Nat->(Nat->Prop)->World->Prop)(k:Nat)(X:Nat->Prop)(u:Value)(W:World)(e:Ending)(A:World):Prop:=
 (e=.returned (.bool true)/\∃B,J (k+1) B A/\(∀i,B i->X i\/u.ownBlock=some i\/W.heap.size<=i)/\Off X W A/\E2 Kp W A)\/(e=.returned (.bool false)/\∃B,C (k+1) B A)
def XV(F:Fence)(n:Nat)(P:Program)(g:Nat)(lb:Array Value)(L:LL)(Kp:Nat->Prop)(w:World):Prop:=
 ∀(l:Nat) (J B:Nat->(Nat->Prop)->World->Prop) (X:Nat->Prop) (W:World),Below w.heap.size w W->pT J->pT B->(L.length<=1000000\/∀k X W,J k X W->k<=1000000)->
  (∀k D A u,k<L.length->J k D A->SI A u (L.getD k [])->(∀i,u.ownBlock=some i->i<A.heap.size/\¬D i)->YieldAt F (n-1) P l #[.int .i64 (k:Int),u] A (yD Kp J B k D u A))->
  J 0 X W->
  CallsIn F n P g (#[.func (.yield l) #[] #[]]++lb) W fun e E=>(∃v,e=.returned v)/\((∃C,J L.length C E)\/∃k C,k<L.length/\B (k+1) C E)
variable {F:Fence} {n:Nat} {P:Program}
def YA(Kp:Nat->Prop)(I:Nat->(Nat->Prop)->World->Prop)(B:Code->Nat->(Nat->Prop)->World->Prop)(k:Nat)(X:Nat->Prop)(u:Value)(W:World):Exit->Act->World->Prop
 | .normal,_,W'=>Off X W W'/\E2 Kp W W'/\∃A,I (k+1) A W'/\(∀i,A i->X i\/u.ownBlock=some i\/W.heap.size<=i)
 | .ret,_,W'=>Off X W W'/\∃A,B .ret (k+1) A W'/\(∀i,A i->X i\/u.ownBlock=some i\/W.heap.size<=i)
 | .exit id,_,W'=>Off X W W'/\∃A,B (.exit id) (k+1) A W'/\(∀i,A i->X i\/u.ownBlock=some i\/W.heap.size<=i)
 | .goto t,_,W'=>Off X W W'/\∃A,B (.goto t) (k+1) A W'/\(∀i,A i->X i\/u.ownBlock=some i\/W.heap.size<=i)
 | .panic _,_,_=>False
 | .outgrown,_,_=>False
theorem IK{g:Operand}{ρ:Array Tmp}{assign body:Code}{Q:Exit->Act->World->Prop}{a:Act}{w:World}
   (Bm:F.round=none)(V:1<=n){gf:Nat}{lb:Array Value}(hg:a.eval g=.func (.func gf) #[] lb)(Ax:F.fn gf)(Av:∀args w,(callFunc gf args).run P w=.ok (.enter gf args) w)
   {L:LL}{Kp:Nat->Prop}(Bb:∀i,Kp i->i<w.heap.size){w0:World}(Bo:XV F (n-1) P gf lb L Kp w0)(Ao:Below w0.heap.size w0 w)(Bl:ρ.size=2)
   (I:Nat->(Nat->Prop)->World->Prop)(U:Code->Nat->(Nat->Prop)->World->Prop)(hI:pT I)(κ:∀c,pT (U c))(Az:L.length<=1000000\/∀k X W,I k X W->k<=1000000){s:Nat->Prop}(ω:I 0 s w)(Ah:Nat->Value->Act)
   (Bd:∀(l k:Nat) (u:Value) (W:World) (K:Act->World->Prop),K (Ah k u) W->
     assign.wpIn (F.inRound l) (n-1-1) P (Exit.then K (fun _ _ _=>False)) {tmps:=(ρ.zip #[.int .i64 (k:Int),u]).foldl (fun t (p,v)=>t.setIfInBounds p v) a.tmps,defers:=[]} W)
   (Be:∀(l k:Nat) (X:Nat->Prop) (u:Value) (W:World),w.heap.size<=l->¬X l->I k X W->k<L.length->SI W u (L.getD k [])->(∀i,u.ownBlock=some i->i<W.heap.size/\¬X i)->
     body.wpIn (F.inRound l) (n-1-1) P (YA Kp I U k X u W) (Ah k u) W)
   (Bg:∀(D:Nat) (X:Nat->Prop) (W:World),w.heap.size<=D->¬X D->I L.length X W->W.heap[D]?=some (.deferred (some []))->Q .normal {a with defers:={target:=.collected D,args:=#[]}::a.defers} W)
   (Bp:∀(D:Nat) (c:Code) (k:Nat) (X:Nat->Prop) (W:World),w.heap.size<=D->¬X D->k<L.length->U c (k+1) X W->W.heap[D]?=some (.deferred (some []))->c.wpIn F n P Q {a with defers:={target:=.collected D,args:=#[]}::a.defers} W):
   (Code.rangeFunc g ρ assign body).wpIn F n P Q a w:=by
 refine wpIn_rangeFunc fun fn Bh=>?_;rw[Bm];obtain⟨M,b⟩:∃M:LoopState->Option Code->Loop,M=fun Bz Bv=>{state:=Bz,pending:=Bv,fn,tmps:=a.tmps,params:=ρ,assign,body,defers:=w.heap.size}:=⟨_,rfl⟩
 obtain⟨D,Am⟩:∃D,D=w.heap.size:=⟨_,rfl⟩
 obtain⟨l,Aq⟩:∃l,l=w.heap.size+1:=⟨_,rfl⟩
 obtain⟨S,η⟩:∃S,S=(w.alloc (.deferred (some []))).alloc (.loop (M .ready none)):=⟨_,rfl⟩
 have Cc:S.heap.size=w.heap.size+2:=by rw[η];simp
 have Bc:S.heap[l]?=some (.loop (M .ready none)):=by have:=World.alloc_heap_new (w.alloc (.deferred (some []))) (.loop (M .ready none));rw[World.size_alloc] at this;rw[η,Aq];exact this
 have Ba:S.heap[D]?=some (.deferred (some [])):=by rw[η,Am];exact(Below.heap_alloc _ _ _ (by simp)).trans (World.alloc_heap_new w _)
 have y:Below w.heap.size w S:=by rw[η];exact aA (aF w _) (aF _ _)
 have Ay:I 0 s S:=hI.on _ _ _ _ ω ⟨y.os,y.tape,y.output,y.size,fun i hi=>y.block i (hI.lt _ _ _ ω i hi)⟩;have An:∀i,s i->i<w.heap.size:=hI.lt _ _ _ ω;refine⟨l,[{target:=.collected D,args:=#[]}],S,{target:=.fn (.func gf) lb,args:=#[.func (.yield l) #[] #[]]},S,gf,#[.func (.yield l) #[] #[]]++lb,S,?_,?_,?_,?_,fun _=>V,?_⟩
 . rw[Aq,Am,η,b];exact run_enterLoop_outer _ _ _ _ _
 . simp only[resolve,hg];simp[go_sem]
 . intro Cb Ap;simp[Target.leads] at Ap;subst Ap;exact Ax
 . simp[invoke,go_sem,Av]
 --the state with the loop's own two blocks beside
 obtain⟨J,x⟩:∃J:Nat->(Nat->Prop)->World->Prop,J=fun k X W=>I k (fun i=>X i/\i≠l/\i≠D) W/\X l/\X D/\W.heap[l]?=some (.loop (M .ready none))/\W.heap[D]?=some (.deferred (some [])):=⟨_,rfl⟩
 obtain⟨z,Ab⟩:∃z:Nat->(Nat->Prop)->World->Prop,z=fun k X W=>∃c,U c k (fun i=>X i/\i≠l/\i≠D) W/\X l/\X D/\W.heap[l]?=some (.loop (M .done (some c)))/\W.heap[D]?=some (.deferred (some [])):=⟨_,rfl⟩
 have T:∀{W:World} {i:Nat} {o:Obj},W.heap[i]?=some o->i<W.heap.size:=fun h=>(Array.getElem?_eq_some_iff.1 h).1;have Bw:pT J:=by
   subst x;refine⟨fun k X W Au h H=>?_,fun k X W h i hi=>?_⟩
   . obtain⟨V,B,E,f,m⟩:=h;exact⟨hI.on _ _ _ _ V (H.mono fun i hi=>hi.1),B,E,(H.block l B).trans f,(H.block D E).trans m⟩
   . obtain⟨V,B,E,f,m⟩:=h;by_cases δ:i=l
     . subst δ;exact T f
     by_cases ε:i=D
     . subst ε;exact T m
     exact hI.lt _ _ _ V i ⟨hi,δ,ε⟩
 have Bx:pT z:=by
   subst Ab;refine⟨fun k X W Au h H=>?_,fun k X W h i hi=>?_⟩
   . obtain⟨c,V,B,E,f,m⟩:=h;exact⟨c,(κ c).on _ _ _ _ V (H.mono fun i hi=>hi.1),B,E,(H.block l B).trans f,(H.block D E).trans m⟩
   . obtain⟨c,V,B,E,f,m⟩:=h;by_cases δ:i=l
     . subst δ;exact T f
     by_cases ε:i=D
     . subst ε;exact T m
     exact(κ c).lt _ _ _ V i ⟨hi,δ,ε⟩
 have μ:l≠D:=by omega
 have Ag:∀{k:Nat} {Y:Nat->Prop} {W:World} (o:Obj),I k Y W->¬Y l->I k Y (W.putObj l o):=fun o h hn=>hI.on _ _ _ _ h ((Off.putObj (X:=fun i=>i=l) _ l o rfl).on fun i hi=>⟨hI.lt _ _ _ h i hi,fun e=>hn (e▸hi)⟩);have At:∀{c:Code} {k:Nat} {Y:Nat->Prop} {W:World} (o:Obj),U c k Y W->¬Y l->U c k Y (W.putObj l o):=fun{c k Y W} o h hn=>(κ c).on _ _ _ _ h ((Off.putObj (X:=fun i=>i=l) _ l o rfl).on fun i hi=>⟨(κ c).lt _ _ _ h i hi,fun e=>hn (e▸hi)⟩);refine(Bo l J z (fun i=>s i\/i=l\/i=D) S (Ao.trans (y.mono Ao.size)) Bw Bx (Az.imp id fun h k X W R=>by rw[x] at R;exact h _ _ _ R.1) ?_ ?_).mono ?_
 . --one round
   intro k X W u Ad R Bq θ;rw[x] at R;obtain⟨hi,r,π,q,ι⟩:=R;have As:=run_yield (P:=P) (args:=#[.int .i64 (k:Int),u]) q (by rw[b];exact Bl.symm);rw[b] at As;refine⟨fn,_,assign,body,As,roundIn_of_wpIn Bh (Bd l k u W _ ⟨_,run_beginRound q (by rw[b]),?_⟩)⟩;obtain⟨N,d⟩:∃N,N=W.putObj l (.loop {M .ready none with state:=.busy}):=⟨_,rfl⟩
   rw[<-d];have Ae:N.heap[l]?=some (.loop {M .ready none with state:=.busy}):=by rw[d];exact World.putObj_heap_same (T q)
   have Aa:N.heap[D]?=some (.deferred (some [])):=by rw[d];exact(World.putObj_heap_other (Ne.symm μ)).trans ι
   have Bn:N.heap.size=W.heap.size:=by rw[d];simp
   have Bi:I k (fun i=>X i/\i≠l/\i≠D) N:=by rw[d];exact Ag _ hi fun h=>h.2.1 rfl
   have Br:SI N u (L.getD k []):=by
     have ν:∀i,u.ownBlock=some i->i≠l:=fun i h e=>(θ i h).2 (e▸r);obtain⟨A,c,rfl,ξ⟩:=Bq;refine⟨A,c,rfl,ξ.len,ξ.cap,fun j R=>?_,ξ.wf⟩;obtain⟨σ,e,Bf⟩:=ξ.cell j R;refine⟨σ,e,?_⟩;subst e;have hb:(σ.add j).block≠l:=by rw[bS];exact ν σ.block rfl
     rw[d,World.cell?_of_block (World.putObj_heap_other hb)];exact Bf
   refine wpIn_mono (Be l k _ u N (by omega) (fun h=>h.2.1 rfl) Bi Ad Br (fun i h=>⟨by rw[Bn];exact(θ i h).1,fun B=>(θ i h).2 B.1⟩)) ?_;have Bu:Off X W N:=by rw[d];exact Off.putObj W l _ r
   have Aj : ∀ (O : Option Code) (G : World), Off (fun i => X i /\ i ≠ l /\ i ≠ D) N G ->
       (Instr.endRound l O).run P G=.ok (.bool O.isNone) (G.putObj l (.loop (M (if O.isNone then .ready else .done) O)))/\
       (G.putObj l (.loop (M (if O.isNone then .ready else .done) O))).heap[l]?=some (.loop (M (if O.isNone then .ready else .done) O))/\
       (G.putObj l (.loop (M (if O.isNone then .ready else .done) O))).heap[D]?=some (.deferred (some []))/\
       Off X W (G.putObj l (.loop (M (if O.isNone then .ready else .done) O))):=fun O G H=>by
     have Ar:G.heap[l]?=some (.loop {M .ready none with state:=.busy}):=(H.block l (T Ae) fun h=>h.2.1 rfl).trans Ae;have Aw:G.heap[D]?=some (.deferred (some [])):=(H.block D (T Aa) fun h=>h.2.2 rfl).trans Aa;have:=run_endRound (P:=P) O Ar;rw[b] at this|-;exact⟨this,World.putObj_heap_same (T Ar),(World.putObj_heap_other (Ne.symm μ)).trans Aw,(Bu.trans (H.mono fun i _ h=>h.1)).trans (Off.putObj G l _ r)⟩
   have Ak:∀{C:Nat->Prop},(∀i,C i->(X i/\i≠l/\i≠D)\/u.ownBlock=some i\/N.heap.size<=i)->¬C l/\¬C D/\(∀i,(C i\/i=l\/i=D)->X i\/u.ownBlock=some i\/W.heap.size<=i):=fun{C} h=>by
     refine⟨fun B=>?_,fun B=>?_,fun i hi=>?_⟩
     . rcases h l B with E|E|E
       . exact E.2.1 rfl
       . exact(θ l E).2 r
       . have:=T Ae;omega
     . rcases h D B with E|E|E
       . exact E.2.2 rfl
       . exact(θ D E).2 π
       . have:=T Aa;omega
     . rcases hi with hi|rfl|rfl
       . rcases h i hi with E|E|E
         . exact .inl E.1
         . exact .inr (.inl E)
         . exact .inr (.inr (by omega))
       . exact .inl r
       . exact .inl π
   have shape:∀{C:Nat->Prop},¬C l->¬C D->∀{k:Nat} {W:World},I k C W->I k (fun i=>(C i\/i=l\/i=D)/\i≠l/\i≠D) W:=fun{C} _ _ {k W} h=>by
     have e:(fun i=>(C i\/i=l\/i=D)/\i≠l/\i≠D)=C:=by
       funext i;refine propext ⟨fun h=>?_,fun h=>⟨.inl h,fun e=>?_,fun e=>?_⟩⟩
       . rcases h.1 with B|B|B
         . exact B
         . exact absurd B h.2.1
         . exact absurd B h.2.2
       . subst e;contradiction
       . subst e;contradiction
     rw[e];exact h
   have By:∀{c:Code} {C:Nat->Prop},¬C l->¬C D->∀{k:Nat} {W:World},U c k C W->U c k (fun i=>(C i\/i=l\/i=D)/\i≠l/\i≠D) W:=fun{c C} _ _ {k W} h=>by
     have e:(fun i=>(C i\/i=l\/i=D)/\i≠l/\i≠D)=C:=by
       funext i;refine propext ⟨fun h=>?_,fun h=>⟨.inl h,fun e=>?_,fun e=>?_⟩⟩
       . rcases h.1 with B|B|B
         . exact B
         . exact absurd B h.2.1
         . exact absurd B h.2.2
       . subst e;contradiction
       . subst e;contradiction
     rw[e];exact h
   have Af : ∀ (c : Code) (G : World), Off (fun i => X i /\ i ≠ l /\ i ≠ D) N G -> (∃ C, U c (k + 1) C G /\ ∀ i, C i -> (X i /\ i ≠ l /\ i ≠ D) \/ u.ownBlock = some i \/ N.heap.size <= i) ->
       ∃v w',(Instr.endRound l (some c)).run P G=.ok v w'/\yD Kp J z k X u W (.returned v) w':=fun c G H Bs=>by
     obtain⟨C,Bt,Ac⟩:=Bs;obtain⟨τ,φ,χ,Ai⟩:=Aj (some c) G H;obtain⟨ζ,ψ,Al⟩:=Ak Ac;refine⟨_,_,τ,.inr ⟨rfl,fun i=>C i\/i=l\/i=D,?_⟩⟩;rw[Ab];exact⟨c,By ζ ψ (At _ Bt ζ),.inr (.inl rfl),.inr (.inr rfl),φ,χ⟩
   rintro e Ca G Z;cases e with
   |normal=>
     obtain⟨H,Bk,C,Bj,Ac⟩:=Z;obtain⟨τ,φ,χ,Ai⟩:=Aj none G H;obtain⟨ζ,ψ,Al⟩:=Ak Ac;refine⟨_,_,τ,.inl ⟨rfl,fun i=>C i\/i=l\/i=D,?_,Al,Ai,fun i hi=>?_⟩⟩;rotate_left
     . have ν:i≠l:=by have:=Bb i hi;omega
       rw[World.putObj_heap_other ν,Bk i hi,d,World.putObj_heap_other ν]
     rw[x];exact⟨shape ζ ψ (Ag _ Bj ζ),.inr (.inl rfl),.inr (.inr rfl),φ,χ⟩
   |ret=>exact Af .ret G Z.1 Z.2
   |exit id=>exact Af (.exit id) G Z.1 Z.2
   |goto t=>exact Af (.goto t) G Z.1 Z.2
   |panic ch=>exact Z.elim
   |outgrown=>exact Z.elim
 . --the start
   rw[x];refine⟨?_,.inr (.inl rfl),.inr (.inr rfl),Bc,Ba⟩;have e:(fun i=>(s i\/i=l\/i=D)/\i≠l/\i≠D)=s:=by
     funext i;refine propext ⟨fun h=>?_,fun h=>⟨.inl h,fun e=>?_,fun e=>?_⟩⟩
     . rcases h.1 with B|B|B
       . exact B
       . exact absurd B h.2.1
       . exact absurd B h.2.2
     . have:=An i h;omega
     . have:=An i h;omega
   rw[e];exact Ay
 . --behind the iterator
   rintro e N ⟨⟨v,rfl⟩,h⟩;rcases h with⟨C,R⟩|⟨k,C,Ad,R⟩
   . rw[x] at R;obtain⟨hi,r,π,q,ι⟩:=R;refine⟨none,_,by have:=run_endLoop (P:=P) q (by rw[b];simp);rw[b] at this;exact this,?_⟩;exact Bg D _ _ (by omega) (fun h=>h.2.2 rfl) (Ag _ hi fun h=>h.2.1 rfl) ((World.putObj_heap_other (Ne.symm μ)).trans ι)
   . rw[Ab] at R;obtain⟨c,hi,r,π,q,ι⟩:=R;refine⟨some c,_,by have:=run_endLoop (P:=P) q (by rw[b];simp);rw[b] at this;exact this,?_⟩;exact Bp D c k _ _ (by omega) (fun h=>h.2.2 rfl) Ad (At _ hi fun h=>h.2.1 rfl) ((World.putObj_heap_other (Ne.symm μ)).trans ι)
end Go.Proofs.YtpfhoemohibniaaGreatDoor
namespace Go.Proofs.YtpfhoemohibniaaGreatDoor
def stS(N:Nat)(f:Nat->LI)(k:Nat):LL:=(List.range N).map fun p=>if p<k then f p else[]
theorem TI(N:Nat)(f:Nat->LI):stS N f 0=List.replicate N []:=by simp[stS,List.map_const']
theorem TH(N:Nat)(f:Nat->LI):stS N f N=(List.range N).map f:=List.map_congr_left fun p A=>by rw[if_pos (by simpa using A)]
theorem V2(N:Nat)(f:Nat->LI)(k:Nat):(stS N f k).length=N:=by simp[stS]
theorem V4{N:Nat}{f:Nat->LI}{k:Nat}(h:k<N):(stS N f k).set k (f k)=stS N f (k+1):=by
 apply List.ext_getElem?;intro i;by_cases hi:i<N
 .by_cases e:k=i
  .subst e;simp[stS,hi]
  .have A:(i<k+1)=(i<k):=by simp;omega
   simp[stS,List.getElem?_set,e,hi,A]
 .simp[stS,List.getElem?_set,hi]
theorem V3{N:Nat}{f:Nat->LI}{k:Nat}(h:k<N):(stS N f k).set k []=stS N f k:=by
 apply List.ext_getElem?;intro i;by_cases hi:i<N
 .by_cases e:k=i
  .subst e;simp[stS,hi]
  .simp[stS,List.getElem?_set,e,hi]
 .simp[stS,List.getElem?_set,hi]
end Go.Proofs.YtpfhoemohibniaaGreatDoor
namespace Go.Proofs.YtpfhoemohibniaaGreatDoor
open Go.RowKit
structure Two(w w':World)(b:Nat)(row:Option Nat):Prop where
 os:w'.os=w.os
 tape:w'.tape=w.tape
 output:w'.output=w.output
 size:w.heap.size<=w'.heap.size
 block:∀k,k<w.heap.size->k≠b->some k≠row->w'.heap[k]?=w.heap[k]?
theorem Two.refl(w:World)(b:Nat)(row:Option Nat):Two w w b row:=⟨rfl,rfl,rfl,Nat.le_refl _,fun _ _ _ _=>rfl⟩
theorem Two.grown{w0 w w':World}{b:Nat}{row D:Option Nat}(h:Two w0 w b row)(hg:w.grownBy w' D)(E:∀g,D=some g->g<w0.heap.size->g=b\/row=some g):Two w0 w' b row:=
 ⟨hg.os.trans h.os,hg.tape.trans h.tape,hg.output.trans h.output,aZ6 h.size hg.size,fun k B hb C=>(hg.block k (aY1 B h.size) (fun e=>by
  rcases E k e.symm B with A|A
  .exact hb A
  .exact C A.symm)).trans (h.block k B hb C)⟩
theorem Two.trans{w0 w w':World}{b:Nat}{row C:Option Nat}(h:Two w0 w b row)(hg:Two w w' b C)(D:∀g,C=some g->g<w0.heap.size->row=some g):Two w0 w' b row:=
 ⟨hg.os.trans h.os,hg.tape.trans h.tape,hg.output.trans h.output,aZ6 h.size hg.size,fun k A hb B=>(hg.block k (aY1 A h.size) hb (fun e=>B (D k e.symm A).symm)).trans (h.block k A hb B)⟩
theorem Two.below{w0 w:World}{b B:Nat}{row:Option Nat}{a:World}(h:Two w0 w b row)(A:Below B a w0)(hb:B<=b)(hB:B<=w0.heap.size)(C:∀g,row=some g->B<=g):Below B a w:=
 A.trans ⟨h.os,h.tape,h.output,h.size,fun k D=>h.block k (by omega) (by omega) (fun e=>by have:=C k e.symm;omega)⟩
theorem YB{w:World}{v:Value}{xs:LI}(h:SI w v xs):∀k,I64 (xs.getD k 0):=by obtain⟨_,_,_,h⟩:=h;exact h.wf
def BT(w:World)(xss:LL)(A:Int)(e:Ending)(w':World):Prop:=∃u,e=.returned (.tuple #[u,.int .i64 A])/\SS w' u xss/\New w u/\Below w.heap.size w w'
theorem BT.nil(w:World)(A:Int){w':World}(h:Below w.heap.size w w'):BT w [] A (.returned (.tuple #[.slice none 0 0,.int .i64 A])) w':=⟨_,rfl,SS.none_ w',New.nil w 0 0,h⟩
end Go.Proofs.YtpfhoemohibniaaGreatDoor
namespace Go.Proofs.YtpfhoemohibniaaGreatDoor
def cI(q r n:Nat):LI:=aQ r fun j=>((n/q^(r-1-j)%q:Nat):Int)
theorem jD(q r n:Nat):(cI q r n).length=r:=aT _ _
theorem KN{q r n c:Nat}(A:c<r):(cI q r n).getD (r-1-c) 0=((n/q^c%q:Nat):Int):=by unfold cI;rw[aS (by omega),show r-1-(r-1-c)=c by omega]
theorem OW{N k:Nat}{f:Nat->Int}{x:Int}:(aQ N f).set k x=aQ N fun i=>if i=k then x else f i:=by
 apply List.ext_getElem?;intro i;by_cases hi:i<N
 .by_cases e:k=i
  .subst e;simp[aQ,hi]
  .have A:¬i=k:=fun h=>e h.symm;simp[aQ,List.getElem?_set,e,A,hi]
 .simp[aQ,List.getElem?_set,hi]
theorem wM{q r n A c d:Nat}(C:c<r)(B:A/q^c%q=d)(h:∀e,e≠c->e<r->A/q^e%q=n/q^e%q):(cI q r n).set (r-1-c) (d:Int)=cI q r A:=by
 unfold cI;rw[OW];refine qX fun j D=>?_;by_cases e:j=r-1-c
 .rw[if_pos e,e,show r-1-(r-1-c)=c by omega,B]
 .rw[if_neg e,h (r-1-j) (by omega) (by omega)]
theorem lI{q:Nat}(hq:2<=q)(a c e:Nat):a*q^c/q^e%q=if e<c then 0 else a/q^(e-c)%q:=by
 have A:∀k,0<q^k:=fun k=>Nat.pow_pos (by omega);by_cases h:e<c
 .rw[if_pos h];obtain⟨d,rfl⟩:∃d,c=e+(d+1):=⟨c-e-1,by omega⟩
  rw[Nat.pow_add,show a*(q^e*q^(d+1))=q^e*(a*q^(d+1)) by rw[Nat.mul_left_comm],Nat.mul_div_cancel_left _ (A e),Nat.pow_succ,<-Nat.mul_assoc,Nat.mul_mod_left]
 .rw[if_neg h];obtain⟨d,rfl⟩:∃d,e=c+d:=⟨e-c,by omega⟩
  rw[Nat.pow_add,<-Nat.div_div_eq_div_mul,Nat.mul_div_cancel _ (A c),show c+d-c=d by omega]
theorem KO{q r a c:Nat}(hq:2<=q)(A:c<r):(cI q r (a*q^c)).set (r-1-c) 0=cI q r (a/q*q^(c+1)):=
 wM (d:=0) A (by rw[lI hq,if_pos (by omega)]) fun e B _=>by
  rw[lI hq,lI hq];by_cases h:e<c
  .rw[if_pos h,if_pos (by omega)]
  .rw[if_neg h,if_neg (by omega),Nat.div_div_eq_div_mul,<-Nat.pow_succ',show(e-(c+1)).succ=e-c by omega]
theorem V7{q r a c:Nat}(hq:2<=q)(D:c<r)(h:a%q+1<q):(cI q r (a*q^c)).set (r-1-c) ((a%q+1:Nat):Int)=cI q r ((a+1)*q^c):=
 have A:(a+1)%q=a%q+1:=by rw[Nat.add_mod,Nat.mod_eq_of_lt (show 1<q by omega),Nat.mod_eq_of_lt h]
 have C:(a+1)/q=a/q:=by
  have F:=Nat.div_add_mod a q;have B:=Nat.div_add_mod (a+1) q;rw[A] at B;have:q*((a+1)/q)=q*(a/q):=by omega
  exact Nat.eq_of_mul_eq_mul_left (by omega) this
 wM D (by rw[lI hq,if_neg (by omega),Nat.sub_self,Nat.pow_zero,Nat.div_one,A]) fun e G _=>by
  rw[lI hq,lI hq];by_cases h:e<c
  .rw[if_pos h,if_pos h]
  .rw[if_neg h,if_neg h];obtain⟨d,E⟩:∃d,e-c=d+1:=⟨e-c-1,by omega⟩
   rw[E,Nat.pow_succ',<-Nat.div_div_eq_div_mul,<-Nat.div_div_eq_div_mul,C]
theorem TX{q r a c:Nat}(hq:2<=q)(A:c<r):(cI q r (a*q^c)).getD (r-1-c) 0=((a%q:Nat):Int):=by rw[KN A,lI hq,if_neg (by omega),Nat.sub_self,Nat.pow_zero,Nat.div_one]
theorem PL{q r s:Nat}(hq:2<=q)(A:s<r):(List.replicate r (0:Int)).set (r-1-s) 1=cI q r (q^s):=by
 have e:List.replicate r (0:Int)=cI q r 0:=by unfold cI;rw[<-gH];exact qX fun p _=>by simp
 rw[e];have:= @wM q r 0 (1*q^s) s 1 A (by rw[lI hq,if_neg (by omega),Nat.sub_self,Nat.pow_zero,Nat.div_one,Nat.mod_eq_of_lt (by omega)]) fun e B _=>by
  rw[lI hq,Nat.zero_div,Nat.zero_mod];by_cases h:e<s
  .rw[if_pos h]
  .rw[if_neg h,Nat.div_eq_of_lt (Nat.one_lt_pow (by omega) (by omega)),Nat.zero_mod]
 rw[Nat.one_mul] at this;exact this
def pJ(q:Nat):Nat->List Nat
 |0=>[]
 |s+1=>pJ q s++(List.range (q^s)).map fun t=>q^s+t
def eB(q:Nat):Nat->Nat
 |0=>0
 |k+1=>eB q k+q^k
theorem oK(q:Nat):∀s,(pJ q s).length=eB q s
 |0=>rfl
 |s+1=>by rw[pJ,aZ1,aY7,List.length_range,oK q s,eB]
theorem ND{q:Nat}{a b:Nat}(h:a<=b):eB q a<=eB q b:=by
 induction b with
 |zero=>rw[show a=0 by omega];exact Nat.le_refl _
 |succ b ih=>
  by_cases e:a=b+1
  .rw[e];exact Nat.le_refl _
  .have:=ih (by omega);rw[eB];omega
theorem D7{q:Nat}(hq:2<=q):∀k,k<=eB q k
 |0=>Nat.le_refl _
 |k+1=>by have:=D7 hq k;have:=Nat.pow_pos (n:=k) (show 0<q by omega);rw[eB];omega
def tJ(q r:Nat):LL:=(pJ q r).map (cI q r)
theorem ML{q n c:Nat}(hq:2<=q)(h:n%q^c=q^c-1)(A:n/q^c%q=q-1):n%q^(c+1)=q^(c+1)-1:=by have B:0<q^c:=Nat.pow_pos (by omega);rw[Nat.pow_succ,Nat.mod_mul,h,A,Nat.mul_sub,Nat.mul_one];have:q^c*1<=q^c*q:=Nat.mul_le_mul_left _ (by omega);omega
theorem FF{q n c:Nat}(hq:2<=q)(h:n%q^c=q^c-1):(n/q^c+1)*q^c=n+1:=by have A:0<q^c:=Nat.pow_pos (by omega);have e:=Nat.div_add_mod n (q^c);rw[h,Nat.mul_comm] at e;rw[Nat.add_mul,Nat.one_mul];omega
theorem O8{q s c t:Nat}(hq:2<=q)(H:c<s)(F:t<q^s)(G:(q^s+t)/q^c%q+1<q)(h:(q^s+t)%q^c=q^c-1):t+1<q^s:=by
 have E:∀k,0<q^k:=fun k=>Nat.pow_pos (by omega);refine Nat.lt_of_le_of_ne F fun e=>?_;have A:=FF hq h;obtain⟨d,rfl⟩:∃d,s=c+(d+1):=⟨s-c-1,by omega⟩
 have B:q^(c+(d+1))+t+1=(2*q^d*q)*q^c:=by rw[show q^(c+(d+1))+t+1=2*q^(c+(d+1)) by omega,Nat.pow_add,Nat.pow_succ];rw[Nat.mul_assoc 2,Nat.mul_assoc 2,Nat.mul_comm (q^c)]
 rw[B] at A;have C:=Nat.eq_of_mul_eq_mul_right (E c) A;have D:((q^(c+(d+1))+t)/q^c+1)%q=0:=by rw[C,Nat.mul_mod_left]
 rw[Nat.add_mod,Nat.mod_eq_of_lt (show 1<q by omega),Nat.mod_eq_of_lt G] at D;omega
theorem RL{q s t:Nat}(A:t<q^s)(h:(q^s+t)%q^s=q^s-1):t+1=q^s:=by rw[Nat.add_mod_left,Nat.mod_eq_of_lt A] at h;omega
end Go.Proofs.YtpfhoemohibniaaGreatDoor
namespace Go.Proofs.YtpfhoemohibniaaGreatDoor
open Go.RowKit
theorem SI.onb{w w':World}{v:Value}{xs:LI}(h:SI w v xs)(D:0<xs.length->∀g,v.ownBlock=some g->w'.heap[g]?=w.heap[g]?):SI w' v xs:=by obtain⟨A,c,rfl,h⟩:=h;refine⟨A,c,rfl,h.len,h.cap,fun k E=>?_,h.wf⟩;obtain⟨B,rfl,C⟩:=h.cell k E;refine⟨B,rfl,(World.cell?_of_block ?_).trans C⟩;rw[bS];exact D (by omega) _ rfl
theorem GT{w w':World}{B:Nat}{e:TypeId}{size:Nat}{v:Value}{n:Nat}{xs:List Value}(h:w.ownsRow B e size v n xs)(G:∀g,v.ownBlock=some g->w'.heap[g]?=w.heap[g]?):w'.ownsRow B e size v n xs:=by
 refine⟨h.1,?_⟩;rcases h.2 with h|⟨g,A,C,rfl,D,E,F⟩
 .exact .inl h
 .exact .inr ⟨g,A,C,rfl,D,(G g rfl).trans E,F⟩
theorem OS.onb{B:Nat}{Y:Nat->Prop}{w w':World}{v:Value}{xss:LL}(h:OS B Y w v xss)(I:∀g,v.ownBlock=some g->w'.heap[g]?=w.heap[g]?)(F:∀g,g<w.heap.size->¬Y g->w'.heap[g]?=w.heap[g]?):OS B Y w' v xss:=by obtain⟨us,G,hi⟩:=h;refine⟨us,GT G I,fun i E=>?_⟩;obtain⟨u,H,C,D⟩:=hi i E;exact⟨u,H,C.onb fun A g hg=>F g (C.lt A hg) (D A g hg).2,D⟩
structure WW(B bo cb:Nat)(w0:World)(L:LL)(k:Nat)(X:Nat->Prop)(W:World):Prop where
 st:∃v,Blk W bo 25 [v]/\OS B (fun g=>¬X g\/g=bo) W v (L.take k)/\∀g,v.ownBlock=some g->X g/\g≠bo/\g≠cb
 bx:X bo
 lt:∀i,X i->i<W.heap.size
 low:∀i,i<B\/i=cb->X i
 bel:Below B w0 W
theorem WW.on{B D cb:Nat}{w0 W C:World}{L:LL}{k:Nat}{X:Nat->Prop}(h:WW B D cb w0 L k X W)(A:On X W C):WW B D cb w0 L k X C:=by
 obtain⟨v,F,G,E⟩:=h.st;have hb:Below B W C:=⟨A.os,A.tape,A.output,A.size,fun i hi=>A.block i (h.low i (.inl hi))⟩
 exact⟨⟨v,(A.block _ h.bx).trans F,G.onb (fun g hg=>A.block g (E g hg).1) (fun g _ hn=>A.block g (aY0 fun H=>hn (.inl H))),E⟩,h.bx,fun i hi=>aY1 (h.lt i hi) A.size,h.low,h.bel.trans hb⟩
theorem WW.rests(B A cb:Nat)(w0:World)(L:LL):pT (WW B A cb w0 L):=⟨fun k X W D h C=>h.on C,fun k X W h=>h.lt⟩
section
variable {ops:Array Oper} {rest:List Oper} {o:Oper} {a:Act} {w:World} {Q:Exit->Act->World->Prop}
theorem AT{F:Fence}{n:Nat}(hg:o.guard=none)(s x:Operand)
  (N:o.op=.call {callee:=.builtin .append,args:=#[s,x],argTypes:=#[25,25]})
  (B:Nat)(X:Nat->Prop)(v:Value)(xss:LL)(m:a.eval s=v)(k:OS B X w v xss)(g c:Nat)(u:Value)(ys:LI)(q:a.eval x=.slice (some ⟨g,0,none⟩) 1 c)(Y:w.cell? ⟨g,0,none⟩=some u)
  (O:SI w u ys)(R:0<ys.length->∀g,u.ownBlock=some g->v.ownBlock≠some g/\¬X g)
  (ζ:xss.length+1<=4398046511104)(hB:B<=w.heap.size)
  (h:∀v' w',OS B X w' v' (xss++[ys])->w.grownBy w' v.ownBlock->(v'.ownBlock=v.ownBlock\/v'.ownBlock=some w.heap.size)->wpListIn F n Tryz.prog ops Q rest (a.put o.dst v') w'):wpListIn F n Tryz.prog ops Q (o::rest) a w:=by
 refine wpListIn_plain hg fun K hK=>?_;obtain⟨δ,hi,r,t,z⟩:=info_parts Tryz.infoInts;obtain⟨us,T,d⟩:=k;have f:u.oneCell'=true:=by obtain⟨A,ε,rfl,_⟩:=O;rfl
 obtain⟨v',w',l,W,L,_,D⟩:=run_append_own_at (P:=Tryz.prog) w B 25 o.type 22 δ (.slice none 0 0) 1 24 Tryz.underlying25 hi r t z rfl (by decide) v xss.length us T
  ⟨g,0,none⟩ 1 c [u] rfl (by
   intro j y I
   match j,I with
   |0,I=>simp at I;subst I;simpa[Addr.add] using Y) (by intro y J;simp at J;subst J;exact f) (by unfold maxLen;omega) (by omega) hB
 unfold Oper.wpIn;refine⟨?_,?_⟩
 .simp[Oper.about,N,resolve,Target.leads,Sem.run_pure]
 rw[Oper.semAt_plain F _ _ (by rw[N];intro c Z;cases Z)];simp[execOp,N,resolve,invoke,builtin,m,q,l,Result.andThen];refine hK _ _ (h v' w' ?_ L D);have p:us.length=xss.length:=by have:=T.1;omega
 refine⟨us++[u],by simpa using W,fun i b=>?_⟩;rw[aZ1,aZ2] at b;by_cases e:i<xss.length
 .obtain⟨y,J,U,S⟩:=d i e;have M:(xss++[ys]).getD i []=xss.getD i []:=by simp[List.getD,aY2 e]
  rw[M];refine⟨y,by rw[aY2 (by omega)];exact J,U.grown L (fun C G E=>(S C G E).1),fun C G E=>⟨?_,(S C G E).2⟩⟩;rcases D with D|D
  .rw[D];exact(S C G E).1
  .rw[D];intro H;have:=U.lt C E;injection H with H;omega
 .have V:i=xss.length:=by omega
  subst V;have M:(xss++[ys]).getD xss.length []=ys:=by simp[List.getD]
  rw[M];refine⟨u,by rw[<-p];simp,O.grown L (fun C G E=>(R C G E).1),fun C G E=>⟨?_,(R C G E).2⟩⟩;rcases D with D|D
  .rw[D];exact(R C G E).1
  .rw[D];intro H;have:=O.lt C E;injection H with H;omega
end
theorem WW.push{B A cb:Nat}{w0 W:World}{L:LL}{k:Nat}{X:Nat->Prop}{u:Value}(h:WW B A cb w0 L k X W)(f:B<=A)(j:cb≠A)(S:k<L.length)(q:SI W u (L.getD k []))(V:∀i,u.ownBlock=some i->i<W.heap.size/\¬X i):
   ∃v,Blk W A 25 [v]/\OS B (fun g=>¬(X g\/u.ownBlock=some g)\/g=A) (W.alloc (.cells #[u] 22)) v (L.take k)/\(∀g,u.ownBlock=some g->v.ownBlock≠some g/\¬(¬(X g\/u.ownBlock=some g)\/g=A))/\
     ∀v' D,OS B (fun g=>¬(X g\/u.ownBlock=some g)\/g=A) D v' (L.take k++[L.getD k []])->(W.alloc (.cells #[u] 22)).grownBy D v.ownBlock->(v'.ownBlock=v.ownBlock\/v'.ownBlock=some (W.alloc (.cells #[u] 22)).heap.size)->
       Blk D A 25 [v]/\Off X W (D.setCell ⟨A,0,none⟩ v')/\E2 (fun i=>i<B\/i=cb) W (D.setCell ⟨A,0,none⟩ v')/\∃P,WW B A cb w0 L (k+1) P (D.setCell ⟨A,0,none⟩ v')/\∀i,P i->X i\/u.ownBlock=some i\/W.heap.size<=i:=by
 obtain⟨v,H,I,F⟩:=h.st;have a:=H.lt;have l:=h.lt cb (h.low cb (.inr rfl));have d:B<=W.heap.size:=by omega
 refine⟨v,H,?_,?_,fun v' D U hg c=>?_⟩
 . refine(I.names (Y:=fun g=>¬(X g\/u.ownBlock=some g)\/g=A) fun g _ C=>?_).alloc _;rcases C with C|C
   . exact .inl fun e=>C (.inl e)
   . exact .inr C
 . intro g hg;obtain⟨m,T⟩:=V g hg;refine⟨fun e=>T (F g e).1,fun C=>?_⟩;rcases C with C|C
   . exact C (.inr hg)
   . subst C;exact T h.bx
 . have n:(W.alloc (.cells #[u] 22)).heap.size=W.heap.size+1:=World.size_alloc _ _;have G:Below W.heap.size W (W.alloc (.cells #[u] 22)):=aF W _;have O:∀g,v.ownBlock=some g->B<=g/\g<W.heap.size:=fun g hg=>I.lt hg;have o:(W.alloc (.cells #[u] 22)).heap.size<=D.heap.size:=hg.size;have Q:∀i,i<W.heap.size->v.ownBlock≠some i->D.heap[i]?=W.heap[i]?:=fun i hi K=>(hg.block i (by omega) fun e=>K e.symm).trans (G.block i hi);have R:Blk D A 25 [v]:=(Q A a fun e=>(F A e).2.1 rfl).trans H;have N:∀i,i≠A->(D.setCell ⟨A,0,none⟩ v').heap[i]?=D.heap[i]?:=fun i hi=>Below.heap_setCell D ⟨A,0,none⟩ v' i hi;have p:(D.setCell ⟨A,0,none⟩ v').heap.size=D.heap.size:=by show(D.heap.modify _ _).size=_;rw[Array.size_modify]
   have J:∀g,v'.ownBlock=some g->(v.ownBlock=some g\/g=W.heap.size+1):=fun g E=>by
     rcases c with e|e
     . exact .inl (e.symm.trans E)
     . rw[e] at E;injection E with E;exact .inr (by omega)
   have M:∀i,i<W.heap.size->i≠A->v.ownBlock≠some i->(D.setCell ⟨A,0,none⟩ v').heap[i]?=W.heap[i]?:=fun i hi H I=>(N i H).trans (Q i hi I);refine⟨R,⟨hg.os.trans G.os,hg.tape.trans G.tape,hg.output.trans G.output,by omega,fun i hi Z=>M i hi (fun e=>Z (by rw[e];exact h.bx)) fun e=>Z (F i e).1⟩,fun i hi=>?_,fun i=>X i\/u.ownBlock=some i\/v'.ownBlock=some i,⟨⟨v',?_,?_,fun g E=>?_⟩,.inl h.bx,fun i hi=>?_,fun i hi=>.inl (h.low i hi),?_⟩,fun i hi=>?_⟩
   . have K : v.ownBlock ≠ some i := fun e => by
       rcases hi with hi|hi
       . have:=(O i e).1;omega
       . exact(F i e).2.2 hi
     refine M i (by rcases hi with hi|hi<;>omega) (by rcases hi with hi|hi<;>omega) K
   . exact R.set_ 0 v'
   . have e:L.take (k+1)=L.take k++[L.getD k []]:=by
       rw[List.take_add_one,aZ3 S];simp[List.getD,S]
     rw[e];refine(U.onb (fun g E=>N g ?_) fun g b C=>N g fun e=>C (.inr e)).names fun g b C=>?_
     . rcases J g E with e|e
       . exact(F g e).2.1
       . omega
     . rcases C with C|C
       . exact .inl fun e=>C (e.elim .inl fun e=>.inr (.inl e))
       . exact .inr C
   . refine⟨.inr (.inr E),?_⟩;rcases J g E with e|e
     . exact(F g e).2
     . omega
   . rcases hi with hi|hi|hi
     . have:=h.lt i hi;omega
     . have:=(V i hi).1;omega
     . rcases J i hi with e|e
       . have:=(O i e).2;omega
       . have:=U.lt hi;omega
   . have:Below B W (D.setCell ⟨A,0,none⟩ v'):=⟨hg.os.trans G.os,hg.tape.trans G.tape,hg.output.trans G.output,by omega,fun i hi=>M i (by omega) (by omega) fun e=>by have:=(O i e).1;omega⟩
     exact h.bel.trans this
   . rcases hi with hi|hi|hi
     . exact .inl hi
     . exact .inr (.inl hi)
     . rcases J i hi with e|e
       . exact .inl (F i e).1
       . exact .inr (.inr (by omega))
def yI(b:Int):Bool:=decide (97<=b)&&decide (b<=122)
def tV(b:Int):Bool:=decide (48<=b)&&decide (b<=57)
def sU(b:Int):Bool:=yI b||tV b||b==95
def bAt(s:ByteArray)(k:Nat):Int:=((s.data.toList.getD k 0).toNat:Int)
theorem T8{s:ByteArray}{k:Nat}(h:k<s.size):((s[k]'h).toNat:Int)=bAt s k:=by
 have A:k<s.data.toList.length:=by rw[Array.length_toList];exact h
 unfold bAt;rw[aZ4,aZ3 A];rfl
theorem vH{s:ByteArray}{k:Nat}(h:k<s.size){x:Int}(A:bAt s k=x)(w:World):(Instr.index 9 (.string s) (.int .i64 (k:Int))).run Tryz.prog w=.ok (.int .u8 x) w:=by
 rw[run_index_string (P:=Tryz.prog) w 9 s .i64 k Tryz.underlying9,dif_pos ⟨by omega,by omega⟩];have e:(k:Int).toNat=k:=by omega
 subst A;rw[<-T8 h];simp only[e]
theorem eL(w:World)(b:Int):Calls Tryz.prog 64 #[.int .u8 b] w (fun e w'=>e=.returned (.bool (yI b))/\w=w'):=by
 by_cases h:(97:Int)<=b
 .have A:decide ((97:Int)<=b)=true:=decide_eq_true h;go_enter Tryz.func64,Tryz.ntmps64;go_wp2_with fail;go_ret;exact⟨by simp[yI,A],rfl⟩
 .have A:decide ((97:Int)<=b)=false:=decide_eq_false h;go_enter Tryz.func64,Tryz.ntmps64;go_wp2_with fail;go_ret;exact⟨by simp[yI,A],rfl⟩
theorem kQ(w:World)(b:Int):Calls Tryz.prog 67 #[.int .u8 b] w (fun e w'=>e=.returned (.bool (tV b))/\w=w'):=by
 by_cases h:(48:Int)<=b
 .have A:decide ((48:Int)<=b)=true:=decide_eq_true h;go_enter Tryz.func67,Tryz.ntmps67;go_wp2_with fail;go_ret;exact⟨by simp[tV,A],rfl⟩
 .have A:decide ((48:Int)<=b)=false:=decide_eq_false h;go_enter Tryz.func67,Tryz.ntmps67;go_wp2_with fail;go_ret;exact⟨by simp[tV,A],rfl⟩
theorem JD(w:World)(b:Int):Calls Tryz.prog 66 #[.int .u8 b] w (fun e w'=>e=.returned (.bool (sU b))/\w=w'):=by
 cases hl:yI b
 .cases hd:tV b
  .have A:=zh hl;have B:=zh hd;clear hl hd;go_enter Tryz.func66,Tryz.ntmps66;go_wp2_with fail;refine(eL _ b).mono ?_;rintro e w1 ⟨rfl,rfl⟩;rw[A.out];go_wp2_with fail;refine(kQ _ b).mono ?_;rintro e w1 ⟨rfl,rfl⟩;rw[B.out];go_wp2_with fail;go_ret;exact⟨by simp[sU,A.out,B.out],rfl⟩
  .have A:=zh hl;have B:=zh hd;clear hl hd;go_enter Tryz.func66,Tryz.ntmps66;go_wp2_with fail;refine(eL _ b).mono ?_;rintro e w1 ⟨rfl,rfl⟩;rw[A.out];go_wp2_with fail;refine(kQ _ b).mono ?_;rintro e w1 ⟨rfl,rfl⟩;rw[B.out];go_wp2_with fail;go_ret;exact⟨by simp[sU,A.out,B.out],rfl⟩
 .have A:=zh hl;clear hl;go_enter Tryz.func66,Tryz.ntmps66;go_wp2_with fail;refine(eL _ b).mono ?_;rintro e w1 ⟨rfl,rfl⟩;rw[A.out];go_wp2_with fail;go_ret;exact⟨by simp[sU,A.out],rfl⟩
theorem DM(w:World)(s:ByteArray)(i j:Nat)(Q:s.size<=1000)(J:i<=j)(O:j<=s.size)(E:∀k,i<=k->k<j->sU (bAt s k)=true)(D:j<s.size->sU (bAt s j)=false):
  Calls Tryz.prog 65 #[.string s,.int .i64 (i:Int),.func (.func 66) #[] #[]] w (fun e w'=>e=.returned (.int .i64 (j:Int))/\w=w'):=by
 have G:=zh E;have F:=zh D;clear E D;go_enter Tryz.func65,Tryz.ntmps65;go_wp2_with fail;go_loopw [1] (fun u wr=>∃k:Nat,i<=k/\k<=j/\u=.int .i64 (k:Int)/\w=wr) (fun u _=>j-(intOf u).toNat)
 case atStart=>exact⟨i,Nat.le_refl _,J,rfl,rfl⟩
 case round=>
  obtain⟨k,K,P,rfl,rfl⟩:=hrel;by_cases A:k<s.size
  .obtain⟨b,hb⟩:∃b,bAt s k=b:=⟨_,rfl⟩
   have N:=fun M=>vH A hb M;have H:decide ((k:Int)<(s.size:Int))=true:=decide_eq_true (by omega);have I:decide (k<s.size)=true:=decide_eq_true A;have C:=zh hb;clear hb;go_wp2_with fail;refine(JD _ b).mono ?_;rintro e w1 ⟨rfl,rfl⟩;by_cases L:k<j
   .have B:Hid (sU b=true):=aD (by rw[<-C.out];exact G.out k K L);rw[B.out];go_wp2_with fail;exact⟨⟨k+1,by omega,by omega,by push_cast;rfl,trivial⟩,by simp only[intOf];omega⟩
   .obtain rfl:j=k:=by omega
    have B:Hid (sU b=false):=aD (by rw[<-C.out];exact F.out A);rw[B.out];go_wp2_with fail;go_ret;exact⟨rfl,rfl⟩
  .obtain rfl:j=k:=by omega
   have H:decide ((j:Int)<(s.size:Int))=false:=decide_eq_false (by omega);have I:decide (j<s.size)=false:=decide_eq_false A;go_wp2_with fail;go_ret;exact⟨rfl,rfl⟩
theorem PJ(w:World)(s:ByteArray)(i j:Nat)(Q:s.size<=1000)(J:i<=j)(O:j<=s.size)(E:∀k,i<=k->k<j->tV (bAt s k)=true)(D:j<s.size->tV (bAt s j)=false):
  Calls Tryz.prog 65 #[.string s,.int .i64 (i:Int),.func (.func 67) #[] #[]] w (fun e w'=>e=.returned (.int .i64 (j:Int))/\w=w'):=by
 have G:=zh E;have F:=zh D;clear E D;go_enter Tryz.func65,Tryz.ntmps65;go_wp2_with fail;go_loopw [1] (fun u wr=>∃k:Nat,i<=k/\k<=j/\u=.int .i64 (k:Int)/\w=wr) (fun u _=>j-(intOf u).toNat)
 case atStart=>exact⟨i,Nat.le_refl _,J,rfl,rfl⟩
 case round=>
  obtain⟨k,K,P,rfl,rfl⟩:=hrel;by_cases A:k<s.size
  .obtain⟨b,hb⟩:∃b,bAt s k=b:=⟨_,rfl⟩
   have N:=fun M=>vH A hb M;have H:decide ((k:Int)<(s.size:Int))=true:=decide_eq_true (by omega);have I:decide (k<s.size)=true:=decide_eq_true A;have C:=zh hb;clear hb;go_wp2_with fail;refine(kQ _ b).mono ?_;rintro e w1 ⟨rfl,rfl⟩;by_cases L:k<j
   .have B:Hid (tV b=true):=aD (by rw[<-C.out];exact G.out k K L);rw[B.out];go_wp2_with fail;exact⟨⟨k+1,by omega,by omega,by push_cast;rfl,trivial⟩,by simp only[intOf];omega⟩
   .obtain rfl:j=k:=by omega
    have B:Hid (tV b=false):=aD (by rw[<-C.out];exact F.out A);rw[B.out];go_wp2_with fail;go_ret;exact⟨rfl,rfl⟩
  .obtain rfl:j=k:=by omega
   have H:decide ((j:Int)<(s.size:Int))=false:=decide_eq_false (by omega);have I:decide (j<s.size)=false:=decide_eq_false A;go_wp2_with fail;go_ret;exact⟨rfl,rfl⟩
theorem VX(s:ByteArray)(c:Int)(w:World):(callFunc 183 #[.string s,.int .u8 c]).run Tryz.prog w=.ok (.value (.int .i64 (firstIdx s c.toNat.toUInt8))) w:=by rw[run_callFunc_extern Tryz.func183 (by kernel_rfl) (by kernel_rfl) (by kernel_rfl) (e:=Extern.BytealgIndexByte.indexByte) (by kernel_rfl),run_indexByte_string];rfl
theorem JK(w:World)(s:ByteArray)(c:Int):Calls Tryz.prog 69 #[.string s,.int .u8 c] w (fun e w'=>e=.returned (.int .i64 (firstIdx s c.toNat.toUInt8))/\w=w'):=by
 have D:=fun A=>VX s c A;have B:∀A:World,Calls Tryz.prog 126 #[.string s,.int .u8 c] A (fun e w'=>e=.returned (.int .i64 (firstIdx s c.toNat.toUInt8))/\A=w'):=fun A=>by go_enter Tryz.func126,Tryz.ntmps126;go_wp2_with fail;go_ret;exact⟨rfl,rfl⟩
 have C:=zh B;clear B D;go_enter Tryz.func69,Tryz.ntmps69;go_wp2_with fail;refine(C _).mono ?_;rintro e w1 ⟨rfl,rfl⟩;go_wp2_with fail;go_ret;exact⟨rfl,rfl⟩
end Go.Proofs.YtpfhoemohibniaaGreatDoor
