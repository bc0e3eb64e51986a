/- Parts. -/
import Derived.Test.YtnpfliklhbkonaaGreatDoorZA8
import Derived.Test.YtnpfliklhbkonaaGreatDoorZA10
set_option maxRecDepth 99999
set_option maxHeartbeats 0
namespace Go.Proofs.YtnpfliklhbkonaaGreatDoor
section
section
variable {P M:Int}
theorem JL(x p:Int)(A:2<=p)(m:Nat):bU x p (m+1)=x%p::bU (x/p) p m:=by
 unfold bU;rw[List.range_succ_eq_map,List.map_cons,List.map_map];congr 1
 .rw[Int.pow_zero,Int.ediv_one]
 .refine List.map_congr_left fun i _=>?_;show x/p^(i+1)%p=x/p/p^i%p;congr 1;rw[Int.pow_succ,Int.mul_comm,Int.ediv_ediv_of_nonneg om]
theorem yX{p:Int}(A:2<=p):∀(m:Nat) (x:Int),0<=x->x<p^m->bL p (bU x p m)=x
 |0,x,h0,h1=>by
  rw[Int.pow_zero] at h1;obtain rfl:x=0:=om;rfl
 |m+1,x,h0,h1=>by rw[JL x p A,bL,yX A m (x/p) (Int.ediv_nonneg h0 om) (Int.ediv_lt_of_lt_mul om (by rw[Int.pow_succ] at h1;exact h1)),Int.mul_comm];exact Int.mul_ediv_add_emod x p
def dg(P M x:Int):Nat->Int:=fn (cX P M x)
theorem dV(P M x:Int):Sup M.toNat (dg P M x):=fun j A=>bG (by rw[jT];exact A)
theorem V6(A:2<=P)(x:Int)(i:Nat):0<=dg P M x i/\dg P M x i<P:=uJ A i
theorem CE(A:2<=P)(x:Int)(i:Nat):dg P M x i%P=dg P M x i:=Int.emod_eq_of_lt (V6 A x i).1 (V6 A x i).2
theorem GJ(D:aF P M≠0){x:Int}(A:0<=x)(B:x<aF P M):bL P (cX P M x)=x:=by obtain⟨C,_,_,_,_,E⟩:=bO D;unfold cX;rw[show inQ (aF P M) x=x by unfold inQ;rw[iP ⟨A,B⟩]];exact yX C _ _ A (by rw[<-E];exact B)
theorem lB(B:aF P M≠0){x y:Int}(C:0<=x/\x<aF P M)(D:0<=y/\y<aF P M)(h:∀i,i<M.toNat->dg P M x i=dg P M y i):x=y:=by
 have e:cX P M x=cX P M y:=by refine eK (by rw[jT,jT]) fun i A E=>?_;have:=h i (by rw[jT] at A;exact A);simpa[dg,fn,List.getD,A,E] using this
 rw[<-GJ B C.1 C.2,e,GJ B D.1 D.2]
theorem xH(B:aF P M≠0){d:LI}(E:d.length=M.toNat)(A:∀i,i<d.length->0<=d i 0/\d i 0<P){i:Nat}(hi:i<M.toNat):dg P M (bL P d) i=d i 0:=by obtain⟨C,_,_,_,_,F⟩:=bO B;have D:=mZ B E A;unfold dg fn cX;rw[show inQ (aF P M) (bL P d)=bL P d by unfold inQ;rw[iP D],gF hi];exact rK C i d A om
theorem pS(A:aF P M≠0)(x y:Int){i:Nat}(hi:i<M.toNat):dg P M (fW P M x y) i=(dg P M x i+dg P M y i)%P:=by
 obtain⟨B,_,_,_,_,_⟩:=bO A;unfold fW;rw[xH A (aW _ _) (fun k hk=>by rw[aW] at hk;rw[aK hk];exact⟨eN _ om,eM _ om⟩) hi,aK hi];rfl
theorem jb(A:aF P M≠0)(x:Int){i:Nat}(hi:i<M.toNat):dg P M (iO P M x) i=(P-dg P M x i)%P:=by
 obtain⟨B,_,_,_,_,_⟩:=bO A;unfold iO;rw[xH A (aW _ _) (fun k hk=>by rw[aW] at hk;rw[aK hk];exact⟨eN _ om,eM _ om⟩) hi,aK hi];rfl
theorem H9{Mq:LI}(D:1<=M)(C:sL P M Mq):Sup M.toNat (fn Mq):=fun j E=>bG (by
 obtain⟨A,B⟩:=C;by_cases e:M=1
 .rw[A e];simp
 .have:=(B e).1;omega)
theorem jN{Mq:LI}(B:aF P M≠0)(G:sL P M Mq)(x y:Int){i:Nat}(hi:i<M.toNat):dg P M (bM P M Mq x y) i=gN (fn Mq) M.toNat (dg P M x) (dg P M y) i%P:=by
 obtain⟨E,_,D,_,_,_⟩:=bO B;have C:=fun j F=>FSq (p:=P) E (N:=M.toNat) om (H9 D G) (a:=cX P M x) (b:=cX P M y) (dV P M x) (dV P M y) (j:=j) F;have A:(pE P Mq (cX P M x) (cX P M y) M.toNat).length=M.toNat:=by unfold pE;rw[aY3,mB,mL];omega
 unfold bM;rw[xH B A (fun k hk=>by rw[A] at hk;rw[C k hk];exact⟨eN _ om,eM _ om⟩) hi,C i hi];rfl
theorem oZ(A:aF P M≠0)(i:Nat):dg P M 0 i=0:=by
 obtain⟨B,_,_,_,_,C⟩:=bO A;by_cases hi:i<M.toNat
 .unfold dg fn cX;rw[show inQ (aF P M) 0=0 by unfold inQ;split<;>rfl,gF hi,Int.zero_ediv,Int.zero_emod]
 .exact dV P M 0 i om
theorem dB(B:aF P M≠0):1<aF P M:=by obtain⟨A,_,C,_,_,D⟩:=bO B;have:=dU A (show 1<=M.toNat from om);rw[Int.pow_one] at this;omega
theorem MG(A:aF P M≠0):dg P M 1=aN 0:=by
 obtain⟨C,_,D,_,_,E⟩:=bO A;have B:=dB A;funext i;by_cases hi:i<M.toNat
 .unfold dg fn cX;rw[show inQ (aF P M) 1=1 by unfold inQ;rw[iP ⟨om,B⟩],gF hi];unfold aN;by_cases e:i=0
  .rw[iP e,e,Int.pow_zero,Int.ediv_one];exact Int.emod_eq_of_lt om om
  .rw[iN e];have:=dU C (show 1<=i from om);rw[Int.pow_one] at this;rw[Int.ediv_eq_zero_of_lt om om,Int.zero_emod]
 .rw[dV P M 1 i om];unfold aN;rw[iN om]
end
theorem mO:∀(n:Nat) (f:Nat->Nat),(∀i,i<n->f i<n)->(∀i j,i<n->j<n->f i=f j->i=j)->∀y,y<n->∃i,i<n/\f i=y
 |0,_,_,_,y,hy=>aB hy om
 |n+1,f,h1,h2,y,hy=>by
  by_cases hn:f n=n
  .have D : ∀ i, i < n -> f i < n := fun i hi => by
    have:=h1 i om;have:f i≠n:=fun e=>by have:=h2 i n om om (by rw[e,hn]);omega
    omega
   by_cases e:y=n
   .exact⟨n,om,by rw[hn,e]⟩
   .obtain⟨i,hi,B⟩:=mO n f D (fun i j hi G=>h2 i j om om) y om;exact⟨i,om,B⟩
  .
   have D:∀i,i<n->(if f i=n then f n else f i)<n:=fun i hi=>by have a:=h1 i om;have b:=h1 n om;split<;>omega
   have F:∀i j,i<n->j<n->(if f i=n then f n else f i)=(if f j=n then f n else f j)->i=j:=fun i j hi G e=>by
    by_cases A:f i=n
    .by_cases C:f j=n
     .exact h2 i j om om om
     .rw[iP A,iN C] at e;have:=h2 n j om om e;omega
    .by_cases C:f j=n
     .rw[iN A,iP C] at e;have:=h2 i n om om e;omega
     .rw[iN A,iN C] at e;exact h2 i j om om e
   by_cases e:y=n
   .
    obtain⟨i,hi,B⟩:=mO n (fun i=>if f i=n then f n else f i) D F (f n) (oA (h1 n om));by_cases A:f i=n
    .exact⟨i,om,by rw[A,e]⟩
    .rw[iN A] at B;have:=h2 i n om om B;omega
   .by_cases E:y=f n
    .exact⟨n,om,E.symm⟩
    .obtain⟨i,hi,B⟩:=mO n (fun i=>if f i=n then f n else f i) D F y om;by_cases A:f i=n
     .rw[iP A] at B;exact aB B.symm E
     .rw[iN A] at B;exact⟨i,om,B⟩
section
variable {P M:Int} {Mq:LI}
theorem AM(x:Int):∀k:Nat,0<=eX P M Mq x k/\(eX P M Mq x k<k\/eX P M Mq x k=0)
 |0=>⟨Int.le_refl _,.inr rfl⟩
 |k+1=>by
  have A:=AM x k;rw[eX];split
  .exact⟨A.1,om⟩
  .split
   .exact⟨om,om⟩
   .exact⟨Int.le_refl _,.inr rfl⟩
theorem FI{x:Int}:∀k:Nat,eX P M Mq x k≠0->bM P M Mq x (eX P M Mq x k)=1
 |0,h=>aB rfl h
 |k+1,h=>by
  rw[eX] at h|-;by_cases e:eX P M Mq x k≠0
  .rw[iP e];exact FI k e
  .rw[iN e] at h|-;by_cases A:k≠0/\bM P M Mq x k=1
   .rw[iP A];exact A.2
   .rw[iN A] at h;exact aB rfl h
theorem CV{x:Int}{y:Nat}(B:y≠0)(A:bM P M Mq x y=1):∀k,y<k->eX P M Mq x k≠0
 |0,h=>aB h om
 |k+1,h=>by
  rw[eX];by_cases e:eX P M Mq x k≠0
  .rw[iP e];exact e
  .rw[iN e];by_cases C:y=k
   .subst C;rw[iP ⟨B,A⟩];omega
   .exact aB (CV B A k om) e
theorem NS(A:aF P M≠0)(C:sL P M Mq)(f:∀a b,Sup M.toNat a->Sup M.toNat b->Cg P (gN (fn Mq) M.toNat a b) fG->Cg P a fG\/Cg P b fG):(aD P M Mq).Fld (aF P M):=by
 obtain⟨F,_,W,_,_,t⟩:=bO A;have X:0<M.toNat:=om;have hq:=dB A;have s:=H9 W C;have hA:=OL (P:=P) (M:=M) A;have B:=pF (P:=P) (M:=M) A Mq;have J:=fun x y=>Cg.trans (p:=P) (a:=dg P M (bM P M Mq x y)) (b:=fun i=>gN (fn Mq) M.toNat (dg P M x) (dg P M y) i%P) (c:=gN (fn Mq) M.toNat (dg P M x) (dg P M y)) (fun i=>by
  by_cases hi:i<M.toNat
  .rw[jN A C x y hi]
  .rw[dV P M _ i om];dsimp only;rw[DG (fn Mq) M.toNat (dV P M x) _ i om];rfl) (fun i=>Int.emod_emod_of_dvd _ (Int.dvd_refl P))
 have g:∀x y,bM P M Mq x y=bM P M Mq y x:=fun x y=>lB A (B x y) (B y x) fun i hi=>by rw[jN A C x y hi,jN A C y x hi,jF _ _ (dV P M x) (dV P M y)]
 have N:∀x,bM P M Mq x 0=0:=fun x=>lB A (B x 0) ⟨Int.le_refl _,om⟩ fun i hi=>by
  rw[jN A C x 0 hi,oZ A];have:gN (fn Mq) M.toNat (dg P M x) (dg P M 0) i=0:=kR fun k _=>by rw[oZ A,Int.zero_mul]
  rw[this,Int.zero_emod]
 have l:∀x,0<=x->x<aF P M->bM P M Mq x 1=x:=fun x E D=>lB A (B x 1) ⟨E,D⟩ fun i hi=>by rw[jN A C x 1 hi,MG A,KP _ _ X,CE F]
 have L:∀x y z,bM P M Mq x (fW P M y z)=fW P M (bM P M Mq x y) (bM P M Mq x z):=fun x y z=>lB A (B _ _) (hA _ _) fun i hi=>by
  rw[jN A C _ _ hi,pS A _ _ hi,jN A C _ _ hi,jN A C _ _ hi];have e:∀k,dg P M (fW P M y z) k%P=(fun k=>dg P M y k+dg P M z k) k%P:=fun k=>by
   by_cases hk:k<M.toNat
   .rw[pS A _ _ hk,Int.emod_emod_of_dvd _ (Int.dvd_refl P)]
   .dsimp only;rw[dV P M _ k om,dV P M y k om,dV P M z k om];rfl
  have h:=yK (fn Mq) M.toNat (Cg.refl P (dg P M x)) e i;rw[h,XJ];exact Int.add_emod _ _ _
 have H:∀x,fW P M x (iO P M x)=0:=fun x=>lB A (hA _ _) ⟨Int.le_refl _,om⟩ fun i hi=>by rw[pS A _ _ hi,jb A _ hi,oZ A,Int.add_emod,Int.emod_emod_of_dvd _ (Int.dvd_refl P),<-Int.add_emod,show dg P M x i+(P-dg P M x i)=P from om,Int.emod_self]
 have I:∀x,0<=x->x<aF P M->fW P M x 0=x:=fun x E D=>lB A (hA _ _) ⟨E,D⟩ fun i hi=>by rw[pS A _ _ hi,oZ A,Int.add_zero,CE F]
 have G:∀x y,fW P M x y=fW P M y x:=fun x y=>lB A (hA _ _) (hA _ _) fun i hi=>by rw[pS A _ _ hi,pS A _ _ hi,Int.add_comm]
 have O:∀x y z,fW P M (fW P M x y) z=fW P M x (fW P M y z):=fun x y z=>lB A (hA _ _) (hA _ _) fun i hi=>by rw[pS A _ _ hi,pS A _ _ hi,pS A _ _ hi,pS A _ _ hi,Int.emod_add_emod,Int.add_emod_emod,Int.add_assoc]
 refine⟨iJ A Mq,fun x=>dv A x,fun x=>?_,G,O,I,H,g,fun x y z=>?_,l,L,N,fun x E D=>?_⟩
 .have:=AM (P:=P) (M:=M) (Mq:=Mq) x (aF P M).toNat
  show 0<=eX P M Mq x (aF P M).toNat/\eX P M Mq x (aF P M).toNat<aF P M;omega
 .refine lB A (B _ _) (B _ _) fun i hi=>?_;show dg P M (bM P M Mq (bM P M Mq x y) z) i=dg P M (bM P M Mq x (bM P M Mq y z)) i;rw[jN A C _ _ hi,jN A C _ _ hi];have D:=yK (fn Mq) M.toNat (J x y) (fun k=>(rfl:dg P M z k%P=dg P M z k%P)) i;have V:=yK (fn Mq) M.toNat (Cg.refl P (dg P M x)) (J y z) i;rw[D,V,DF _ _ (dV P M x) (dV P M y) (dV P M z)]
 .
  have Y:∀i j:Nat,i<(aF P M).toNat->j<(aF P M).toNat->(bM P M Mq x i).toNat=(bM P M Mq x j).toNat->i=j:=fun i j hi r e=>by
   have m:=B x i;have n:=B x j;have Q:bM P M Mq x i=bM P M Mq x j:=om;have R:bM P M Mq x (fW P M i (iO P M j))=0:=by rw[L,Q,<-L,H,N]
   have S:Cg P (gN (fn Mq) M.toNat (dg P M x) (dg P M (fW P M i (iO P M j)))) fG:=(J x _).symm.trans (by rw[R];exact fun k=>by rw[oZ A];rfl);rcases f _ _ (dV P M x) (dV P M _) S with h|h
   .exfalso;have : x = 0 := lB A ⟨om, D⟩ ⟨Int.le_refl _, by omega⟩ fun k hk => by
     have:=h k;rw[CE F] at this;rw[this,oZ A];exact Int.zero_emod P
    omega
   .have T : fW P M i (iO P M j) = 0 := lB A (hA _ _) ⟨Int.le_refl _, by omega⟩ fun k hk => by
     have:=h k;rw[CE F] at this;rw[this,oZ A];exact Int.zero_emod P
    have o:(i:Int)=j:=by
     have U:fW P M (fW P M i (iO P M j)) j=i:=by rw[O,G (iO P M j),H,I _ om om]
     rw[T,G,I _ om om] at U;omega
    omega
  obtain⟨y,Z,q⟩:=mO (aF P M).toNat (fun i=>(bM P M Mq x i).toNat) (fun i _=>oA (B x i)) Y 1 om;have K:bM P M Mq x y=1:=by have:=B x y;omega
  have d:y≠0:=fun e=>by rw[e] at K;have:=N x;rw[show((0:Nat):Int)=0 from rfl] at K;omega
  show bM P M Mq x (eX P M Mq x (aF P M).toNat)=1;exact FI _ (CV d K _ Z)
theorem dR(h:cZ P M Mq):(aD P M Mq).Fld (aF P M):=by
 obtain⟨E,F,D,I⟩:=h;obtain⟨O,_,N,_,_,_⟩:=bO E;refine NS E D fun a b B C A=>?_;by_cases e:M=1
 .subst e;have K:Mq=[]:=D.1 rfl;subst K;have G:(fn []:Nat->Int)=fn [0]:=by
   funext i;unfold fn
   match i with
   |0=>rfl
   |i+1=>simp[List.getD]
  rw[G] at A;exact qO F (low:=[0]) sM (fun k=>by
   match k with
   |0=>simp[List.getD];omega
   |k+1=>simp[List.getD];omega) (by unfold xZ sJ;rfl) B C A
 .obtain⟨L,H⟩:=D.2 e;have J:Mq.length=M.toNat:=om;rw[<-J] at B C A;refine qO F om (fun k=>?_) (I e) B C A;by_cases hk:k<Mq
  .exact H k hk
  .rw[bG om];omega
end
theorem SB:∀n:Nat,2<=n->∃r,2<=r/\r∣n/\∀m:Nat,r∣m\/Nat.Coprime r m:=by
 intro n hn;have E:∀k,∀r,r<=k->2<=r->r∣n->∃r,2<=r/\r∣n/\∀s,2<=s->s∣n->r<=s:=by
  intro k
  induction k with
  |zero=>intro r B A;omega
  |succ k ih=>
   intro r B A C;by_cases h:∃s,s<r/\2<=s/\s∣n
   .obtain⟨s,a,b,c⟩:=h;exact ih s om b c
   .exact⟨r,A,C,fun s a b=>Nat.le_of_not_lt fun G=>h ⟨s,G,a,b⟩⟩
 obtain⟨r,B,A,C⟩:=E n n zr hn (Nat.dvd_refl n);refine⟨r,B,A,fun m=>?_⟩;by_cases h:Nat.gcd r m=1
 .exact .inr h
 .left;have D:Nat.gcd r m∣r:=Nat.gcd_dvd_left r m;have F:Nat.gcd r m∣m:=Nat.gcd_dvd_right r m;have H:0<Nat.gcd r m:=Nat.gcd_pos_of_pos_left _ om;have I:=C (Nat.gcd r m) om (Nat.dvd_trans D A);have J:=Nat.le_of_dvd om D;rwa[show Nat.gcd r m=r from om] at F
theorem KU{r:Nat}(G:2<=r):∀k:Nat,0<k->∃a A,k=r^a*A/\¬r∣A/\0<A:=by
 intro k
 induction k using Nat.strongRecOn with
 |ind k ih=>
  intro hk;by_cases h:r∣k
  .obtain⟨m,rfl⟩:=h;have F:0<m:=Nat.pos_of_ne_zero fun e=>by rw[e] at hk;omega
   have E:m<r*m:=by have:=Nat.mul_le_mul_right m G;omega
   obtain⟨a,A,B,C,D⟩:=ih m E F;exact⟨a+1,A,by rw[B,Nat.pow_succ,Nat.mul_comm (r^a) r,Nat.mul_assoc],C,D⟩
  .exact⟨0,k,by rw[Nat.pow_zero,Nat.one_mul],h,hk⟩
theorem TC:∀k:Nat,0<k->∀e,¬k∣e->∃r a,2<=r/\(∀m:Nat,r∣m\/Nat.Coprime r m)/\r^a∣k/\¬r^a∣e:=by
 intro k
 induction k using Nat.strongRecOn with
 |ind k ih=>
  intro hk e G;have N:2<=k:=by refine Nat.le_of_not_lt fun h=>G ?_;rw[show k=1 from om];exact Nat.one_dvd e
  obtain⟨r,C,D,E⟩:=SB k N;obtain⟨a,A,B,F,J⟩:=KU C k hk;by_cases h:r^a∣e
  .have L:Nat.Coprime (r^a) A:=Nat.Coprime.pow_left a ((E A).resolve_left F);have M:¬A∣e:=fun I=>G (by rw[B];exact Nat.Coprime.mul_dvd_of_dvd_of_dvd L h I);have T:a≠0:=fun H=>by
    rw[H,Nat.pow_zero,Nat.one_mul] at B;rw[B] at D;exact F D
   have O:A<k:=by
    have K:2<=r^a:=by have:=Nat.pow_le_pow_right (show 0<r from om) (show 1<=a from om);rw[Nat.pow_one] at this;omega
    have:=Nat.mul_le_mul_right A K;omega
   obtain⟨s,b,P,Q,R,S⟩:=ih A O J e M;exact⟨s,b,P,Q,by rw[B];exact Nat.dvd_mul_left_of_dvd R _,S⟩
  .exact⟨r,a,C,E,by rw[B];exact Nat.dvd_mul_right _ _,h⟩
section
variable {O:aQ} {q:Int} (hO:O.Fld q)
def bI(O:aQ)(x:Int):Nat->Int
 |0=>1
 |k+1=>O.mul (bI O x k) x
def dL(q x:Int):Prop:=0<x/\x<q
include hO
theorem tV:dL q 1:=⟨om,oA hO.lt.pos⟩
theorem DH{x y:Int}(A:dL q x)(B:dL q y):dL q (O.mul x y):=by
 have h:=hO.lt.mul x y;have:O.mul x y≠0:=fun e=>by
  rcases hO.mul_eq_zero ⟨oA A.1,A.2⟩ ⟨oA B.1,B.2⟩ e with h|h
  .have:=A.1;omega
  .have:=B.1;omega
 exact⟨om,h.2⟩
theorem bV{x:Int}(A:dL q x):∀k,dL q (bI O x k)
 |0=>tV hO
 |k+1=>DH hO (bV A k) A
theorem jK{x:Int}(A:dL q x):O.mul 1 x=x:=hO.one_mul (oA A.1) A.2
theorem oT{x:Int}(A:dL q x)(a:Nat):∀b,bI O x (a+b)=O.mul (bI O x a) (bI O x b)
 |0=>by rw[bI,hO.mul_one _ (oA ((bV hO A a).1)) (bV hO A a).2];rfl
 |b+1=>by rw[show a+(b+1)=(a+b)+1 from om,bI,oT A a b,bI,hO.mul_assoc]
theorem jI:∀k,bI O 1 k=1
 |0=>rfl
 |k+1=>by rw[bI,jI k];exact hO.one_mul om (oA hO.lt.pos)
theorem oU{x:Int}(A:dL q x)(a:Nat):∀b,bI O x (a*b)=bI O (bI O x a) b
 |0=>rfl
 |b+1=>by rw[Nat.mul_succ,oT hO A,oU A a b];rfl
theorem yL{x y:Int}(A:dL q x)(B:dL q y):∀k,bI O (O.mul x y) k=O.mul (bI O x k) (bI O y k)
 |0=>(hO.one_mul (x:=1) om (oA hO.lt.pos)).symm
 |k+1=>by rw[bI,yL A B k,bI,bI,hO.mul_assoc,hO.mul_assoc];congr 1;rw[<-hO.mul_assoc,hO.mul_comm _ x,hO.mul_assoc]
theorem AR{x y z:Int}(A:dL q x)(B:dL q y)(C:dL q z)(h:O.mul x y=O.mul x z):y=z:=by
 have e:O.mul (O.inv x) (O.mul x y)=O.mul (O.inv x) (O.mul x z):=by rw[h]
 rw[<-hO.mul_assoc,<-hO.mul_assoc,hO.mul_comm (O.inv x),hO.mul_inv x A.1 A.2,jK hO B,jK hO C] at e;exact e
omit hO in
def iU(O:aQ)(x:Int)(k:Nat):Prop:=1<=k/\bI O x k=1/\∀j,1<=j->j<k->bI O x j≠1
theorem yR{x:Int}(A:dL q x){i j:Nat}(B:i<=j)(h:bI O x i=bI O x j):bI O x (j-i)=1:=by refine AR hO (bV hO A i) (bV hO A _) (tV hO) ?_;rw[<-oT hO A,show i+(j-i)=j from om,<-h,hO.mul_one _ (oA ((bV hO A i).1)) (bV hO A i).2]
theorem mI{x:Int}(A:dL q x){k:Nat}(h:iU O x k)(m:Nat):bI O x m=1↔k∣m:=by
 obtain⟨G,B,D⟩:=h;constructor
 .intro C;refine Nat.dvd_of_mod_eq_zero (Nat.eq_zero_of_not_pos fun F=>?_);have E:=Nat.mod_lt m (show k>0 from om);refine D (m%k) F E ?_;have e:m=k*(m/k)+m%k:=(Nat.div_add_mod m k).symm;rw[e,oT hO A,oU hO A,B,jI hO,jK hO (bV hO A _)] at C;exact C
 .rintro⟨t,rfl⟩;rw[oU hO A,B,jI hO]
omit hO in
theorem DK{x:Int}{k:Nat}(hk:1<=k)(h:∀m,bI O x m=1↔k∣m):iU O x k:=
 ⟨hk,(h k).2 (Nat.dvd_refl k),fun j A B e=>oA (Nat.le_of_dvd om ((h j).1 e))⟩
theorem G6{x:Int}(A:dL q x):∃k,iU O x k/\(k:Int)<q:=by
 --two powers meet
 have L:∃i j:Nat,i<j/\(j:Int)<q/\bI O x i=bI O x j:=by
  refine aY0 fun G=>?_;have I:∀i j:Nat,i<q.toNat->j<q.toNat->(bI O x i).toNat=(bI O x j).toNat->i=j:=fun i j hi J e=>by
   have a:=bV hO A i;have b:=bV hO A j;have D:bI O x i=bI O x j:=by have:=a.1;have:=b.1;omega
   rcases Nat.lt_trichotomy i j with h|h|h
   .exact aB ⟨i,j,h,om,D⟩ G
   .exact h
   .exact aB ⟨j,i,h,om,D.symm⟩ G
  obtain⟨i,_,F⟩:=mO q.toNat (fun i=>(bI O x i).toNat) (fun i _=>by have a:=bV hO A i;have b:=a.1;have c:=a.2;omega) I 0 (oA hO.lt.pos);have:=(bV hO A i).1;omega
 obtain⟨i,j,N,J,F⟩:=L;have B:=yR hO A om F;have M:∀n k:Nat,k<=n->1<=k->bI O x k=1->∃m,m<=k/\iU O x m:=by
  intro n
  induction n with
  |zero=>intro k B E;omega
  |succ n ih=>
   intro k B E H;by_cases h:∃j,1<=j/\j<k/\bI O x j=1
   .obtain⟨j,a,b,c⟩:=h;obtain⟨m,K,C⟩:=ih j om a c;exact⟨m,om,C⟩
   .exact⟨k,zr,E,H,fun j a b c=>h ⟨j,a,b,c⟩⟩
 obtain⟨m,K,C⟩:=M (j-i) (j-i) zr om B;exact⟨m,C,om⟩
theorem FY{x:Int}(B:dL q x){a b:Nat}(h:iU O x (a*b)):iU O (bI O x a) b:=by
 have A:=h.1;have C:0<a:=Nat.pos_of_ne_zero fun e=>by rw[e] at A;omega
 have D:0<b:=Nat.pos_of_ne_zero fun e=>by rw[e] at A;omega
 refine DK D fun m=>?_;rw[<-oU hO B,mI hO B h];exact⟨Nat.dvd_of_mul_dvd_mul_left C,Nat.mul_dvd_mul_left a⟩
theorem ee{x y:Int}(A:dL q x)(B:dL q y){a b:Nat}(D:iU O x a)(E:iU O y b)(F:Nat.Coprime a b):iU O (O.mul x y) (a*b):=by
 have L:=D.1;have M:=E.1;have G:=DH hO A B;refine DK (Nat.mul_pos L M) fun m=>?_;constructor
 .intro C;have J:bI O x (m*b)=1:=by
   have:=yL hO A B (m*b);rw[oU hO G,C,jI hO,(mI hO B E (m*b)).2 (Nat.dvd_mul_left b m),hO.mul_one _ (oA ((bV hO A (m*b)).1)) (bV hO A _).2] at this;exact this.symm
  have K:bI O y (m*a)=1:=by have:=yL hO A B (m*a);rw[oU hO G,C,jI hO,(mI hO A D (m*a)).2 (Nat.dvd_mul_left a m),jK hO (bV hO B _)] at this;exact this.symm
  have H:a∣m:=Nat.Coprime.dvd_of_dvd_mul_right F ((mI hO A D _).1 J);have I:b∣m:=Nat.Coprime.dvd_of_dvd_mul_right F.symm ((mI hO B E _).1 K);exact Nat.Coprime.mul_dvd_of_dvd_of_dvd F H I
 .intro C;rw[yL hO A B,(mI hO A D m).2 (Nat.dvd_trans (Nat.dvd_mul_right a b) C),(mI hO B E m).2 (Nat.dvd_trans (Nat.dvd_mul_left b a) C)];exact jK hO (tV hO)
theorem bu:∃x e,dL q x/\iU O x e/\(e:Int)<q/\∀y,dL q y->bI O y e=1:=by
 have K:∀n:Nat,∀x e,(q.toNat-e<=n)->dL q x->iU O x e->(e:Int)<q->∃x e,dL q x/\iU O x e/\(e:Int)<q/\∀y k,dL q y->iU O y k->k<=e:=by
  intro n
  induction n with
  |zero=>intro x e A _ _ E;omega
  |succ n ih=>
   intro x e A B H E;by_cases h:∃y k,dL q y/\iU O y k/\e<k
   .obtain⟨y,k,a,b,c⟩:=h;obtain⟨G,F,J⟩:=G6 hO a;have:k=G:=by
     have Z:=(mI hO a b G).1 F.2.1;have d:=(mI hO a F k).1 b.2.1;exact Nat.dvd_antisymm Z d
    exact ih y k om a b om
   .exact⟨x,e,B,H,E,fun y k a b=>Nat.le_of_not_lt fun c=>h ⟨y,k,a,b,c⟩⟩
 obtain⟨V,S,J⟩:=G6 hO (tV hO);obtain⟨x,e,A,B,H,E⟩:=K _ 1 V zr (tV hO) S J;refine⟨x,e,A,B,H,fun y C=>?_⟩;obtain⟨k,hk,_⟩:=G6 hO C;rw[mI hO C hk];refine aY0 fun U=>?_;obtain⟨r,a,f,g,⟨G,F⟩,i⟩:=TC k hk.1 e U;obtain⟨b,D,I,M,N⟩:=KU f e B.1;have Q:b<a:=Nat.lt_of_not_le fun T=>i (by rw[I];exact Nat.dvd_mul_right_of_dvd (Nat.pow_dvd_pow r T) _);have W:iU O (bI O x (r^b)) D:=FY hO A (by rw[<-I];exact B);have X:iU O (bI O y G) (r^a):=FY hO C (by rw[Nat.mul_comm,<-F];exact hk);have R:Nat.Coprime D (r^a):=(Nat.Coprime.pow_left a ((g D).resolve_left M)).symm;have Y:=ee hO (bV hO A _) (bV hO C _) W X R;have j:=E _ _ (DH hO (bV hO A _) (bV hO C _)) Y;have P:r^b<r^a:=Nat.pow_lt_pow_right om Q;have L:=Nat.mul_lt_mul_of_pos_left P N;rw[Nat.mul_comm D (r^b),<-I] at L;omega
omit hO in
def qM(O:aQ)(c:Nat->Int):Nat->Int->Int
 |0,_=>1
 |d+1,x=>O.add (O.mul x (qM O c d x)) (c d)
theorem cj(c:Nat->Int)(x:Int):∀d,0<=qM O c d x/\qM O c d x<q
 |0=>⟨by show(0:Int)<=1;omega,by have:=hO.lt.pos;show(1:Int)<q;omega⟩
 |d+1=>hO.lt.add _ _
theorem DC(c:Nat->Int)(r x:Int):∀d,qM O c (d+1) x=O.add (O.mul (O.add x (O.neg r)) (qM O (fun i=>qM O c (i+1) r) d x)) (qM O c (d+1) r)
 |0=>by show O.add (O.mul x 1) (c 0)=O.add (O.mul (O.add x (O.neg r)) 1) (O.add (O.mul r 1) (c 0));rw[<-hO.add_assoc,hO.add_mul,hO.add_assoc (O.mul x 1),hO.neg_mul,hO.neg_add,hO.add_zero _ (hO.lt.mul _ _).1 (hO.lt.mul _ _).2]
 |d+1=>by
  have A:=DC c r x d;show O.add (O.mul x (qM O c (d+1) x)) (c (d+1))=O.add (O.mul (O.add x (O.neg r)) (O.add (O.mul x (qM O (fun i=>qM O c (i+1) r) d x)) (qM O c (d+1) r))) (O.add (O.mul r (qM O c (d+1) r)) (c (d+1)));rw[A];generalize qM O (fun i=>qM O c (i+1) r) d x=Q;generalize qM O c (d+1) r=R;generalize c (d+1)=z;rw[<-hO.add_assoc];congr 1;rw[hO.mul_add,hO.mul_add,hO.add_assoc];congr 1
  .rw[<-hO.mul_assoc,<-hO.mul_assoc,hO.mul_comm x]
  .rw[hO.add_mul,hO.add_assoc,hO.neg_mul,hO.neg_add,hO.add_zero _ (hO.lt.mul _ _).1 (hO.lt.mul _ _).2]
theorem K6:∀(d:Nat) (c:Nat->Int) (L:LI),L.Nodup->(∀x,x∈L->0<=x/\x<q/\qM O c d x=0)->L<=d
 |_,_,[],_,_=>aZ5 _
 |0,c,r::L,_,h=>by have:=(h r (List.mem_cons_self ..)).2.2;exact aB this (by show(1:Int)≠0;decide)
 |d+1,c,r::L,hn,h=>by
  obtain⟨G,H⟩:=List.nodup_cons.1 hn;obtain⟨I,J,K⟩:=h r (List.mem_cons_self ..);have:=K6 d (fun i=>qM O c (i+1) r) L H fun x B=>by
   obtain⟨C,D,E⟩:=h x (List.mem_cons_of_mem _ B);rw[DC hO c r x d,K,hO.add_zero _ (hO.lt.mul _ _).1 (hO.lt.mul _ _).2] at E;refine⟨C,D,(hO.mul_eq_zero (hO.lt.add _ _) (cj hO _ _ _) E).resolve_left fun e=>?_⟩;have F:O.neg x=O.neg r:=by rw[<-hO.neg_unique (hO.neg_lt r) e]
   have A:=congrArg O.neg F;rw[hO.neg_neg C D,hO.neg_neg I J] at A;exact G (A▸B)
  rw[List.length_cons];omega
theorem ja:∃x,dL q x/\iU O x (q.toNat-1):=by
 obtain⟨x,e,D,A,H,E⟩:=bu hO;have hq:=hO.lt.pos;have I:=A.1;obtain⟨d,rfl⟩:∃d,e=d+1:=⟨e-1,om⟩
 --1 to q-1 are roots of X^e-1
 have G:∀y,∀k,k<=d->dL q y->qM O (fun i=>if i=d then O.neg 1 else 0) k y=bI O y k:=by
  intro y k
  induction k with
  |zero=>intro _ _;rfl
  |succ k ih=>intro hk B;show O.add (O.mul y (qM O _ k y)) (if k=d then O.neg 1 else 0)=O.mul (bI O y k) y;rw[iN om,ih om B,hO.add_zero _ (hO.lt.mul _ _).1 (hO.lt.mul _ _).2,hO.mul_comm]
 have F:=K6 hO (d+1) (fun i=>if i=d then O.neg 1 else 0) ((List.range (q.toNat-1)).map fun i:Nat=>(i:Int)+1)
  (by rw[List.Nodup,List.pairwise_map];exact List.nodup_range.imp fun h e=>h om)
  fun y B=>by
   obtain⟨i,hi,rfl⟩:=List.mem_map.1 B;rw[List.mem_range] at hi;have C:dL q ((i:Int)+1):=⟨om,om⟩
   refine⟨om,om,?_⟩;show O.add (O.mul _ (qM O _ d _)) (if d=d then O.neg 1 else 0)=0;rw[iP rfl,G _ d zr C,hO.mul_comm];have:=E _ C;rw[bI] at this;rw[this,hO.add_neg]
 rw[aY7,List.length_range] at F;have:d+1=q.toNat-1:=om;rw[this] at A;exact⟨x,D,A⟩
end
section
variable {P M:Int} {Mq:LI}
theorem O8(Q:nY P M Mq){x y:Int}(R:0<=x/\x<aF P M)(S:0<=y/\y<aF P M):IB P M Mq x y=bM P M Mq x y:=by
 obtain⟨O,_,F⟩:=Q;obtain⟨D,_,L,_,_,V⟩:=bO O;have C:0<M.toNat:=om;have J:bU x P M.toNat=cX P M x:=by unfold cX;rw[show inQ (aF P M) x=x by unfold inQ;rw[iP R]]
 have K:bU y P M.toNat=cX P M y:=by unfold cX;rw[show inQ (aF P M) y=y by unfold inQ;rw[iP S]]
 have I:nK M Mq=Mq:=by
  unfold nK;split
  .rfl
  .exact(F.1 om).symm
 unfold IB bM;rw[J,K,I];congr 1;have E:(pE P Mq (cX P M x) (cX P M y) M.toNat).length=M.toNat:=by unfold pE;rw[aY3,mB,mL];omega
 refine eK (by rw[qN,E]) fun j A U=>?_;rw[qN] at A;have H:=KM (p:=P) (low:=Mq) C (dV P M x) (cX P M y) j;have T:=FSq (p:=P) D (N:=M.toNat) C (H9 L F) (a:=cX P M x) (b:=cX P M y) (dV P M x) (dV P M y) (j:=j) A;rw[jT] at H;have G:=wK (low:=Mq) (a:=cX P M x) (N:=M.toNat) D (cX P M y) j;have B:(iE P Mq (cX P M x) M.toNat (cX P M y)).getD j 0=gN (fn Mq) M.toNat (fn (cX P M x)) (fn (cX P M y)) j%P:=by have:fn (iE P Mq (cX P M x) M.toNat (cX P M y)) j%P=(iE P Mq (cX P M x) M.toNat (cX P M y)).getD j 0:=Int.emod_eq_of_lt G.1 G.2;rw[<-this,H];rfl
 rw[<-T] at B;simpa[List.getD,qN,E,A] using B
end
def mX(O:aQ)(x:Int)(k:Nat):Bool:=bI O x k==0||((List.range k).map (bI O x)).contains (bI O x k)
def jW(O:aQ)(x:Int):Nat->Nat->Nat
 |0,k=>k
 |f+1,k=>if mX O x k then k else jW O x f (k+1)
def kK(O:aQ)(q x:Int):LI:=(List.range (jW O x q.toNat 1)).map (bI O x)
def nG(O:aQ)(q x:Int):Bool:=((kK O q x).length:Int)==q-1&&O.mul ((kK O q x).getD (q-2).toNat 0) x==1
def vZ(O:aQ)(q:Int):Nat->Int->LI
 |0,_=>[]
 |f+1,x=>if nG O q x then kK O q x else vZ O q f (x+1)
def wD(O:aQ)(q:Int):LI:=vZ O q (q-1).toNat 1
theorem sC(O:aQ)(x:Int):∀f k j,k<=j->j<jW O x f k->mX O x j=false
 |0,k,j,h1,h2=>by rw[jW] at h2;omega
 |f+1,k,j,h1,h2=>by
  rw[jW] at h2;by_cases h:mX O x k=true
  .rw[iP h] at h2;omega
  .rw[iN h] at h2;by_cases e:j=k
   .subst e;simpa using h
   .exact sC O x f (k+1) j om h2
theorem gW{O:aQ}{x:Int}{k:Nat}(h:mX O x k=false):bI O x k≠0/\∀i,i<k->bI O x i≠bI O x k:=by
 unfold mX at h;rw[Bool.or_eq_false_iff] at h;refine⟨by simpa using h.1,fun i hi e=>?_⟩;have:((List.range k).map (bI O x)).contains (bI O x k)=true:=by rw[List.contains_iff_mem];exact List.mem_map.2 ⟨i,List.mem_range.2 hi,e⟩
 rw[h.2] at this;cases this
theorem D7{O:aQ}{x:Int}{k:Nat}(h:bI O x k=0\/∃i,i<k/\bI O x i=bI O x k):mX O x k=true:=by
 unfold mX;rw[Bool.or_eq_true];rcases h with h|⟨i,hi,e⟩
 .left;simp[h]
 .right;rw[List.contains_iff_mem];exact List.mem_map.2 ⟨i,List.mem_range.2 hi,e⟩
theorem Y7{O:aQ}{q x:Int}(hO:O.Fld q)(D:dL q x){n:Nat}(h:iU O x n)(hn:(n:Int)<q):jW O x q.toNat 1=n:=by
 have F:∀j,1<=j->j<n->mX O x j=false:=fun j B C=>by
  rw[<-Bool.not_eq_true];intro A;unfold mX at A;rw[Bool.or_eq_true] at A;rcases A with A|A
  .have:=(bV hO D j).1;rw[eD] at A;omega
  .rw[List.contains_iff_mem] at A;obtain⟨i,hi,e⟩:=List.mem_map.1 A;rw[List.mem_range] at hi;exact h.2.2 (j-i) om om (yR hO D om e)
 have key:∀f k,1<=k->k<=n->n<k+f->jW O x f k=n:=by
  intro f
  induction f with
  |zero=>intro k _ C E;omega
  |succ f ih=>
   intro k B C E;rw[jW];by_cases e:k=n
   .subst e;rw[iP (D7 (.inr ⟨0,oA h.1,h.2.1.symm⟩))]
   .rw[iN (by rw[F k B om];decide)];exact ih (k+1) om om om
 exact key _ 1 zr h.1 (oA h.1)
theorem zJ{O:aQ}{q:Int}:∀(f:Nat) (x:Int),vZ O q f x≠[]->∃y:Int,x<=y/\y<x+(f:Int)/\nG O q y=true/\vZ O q f x=kK O q y
 |0,x,h=>aB rfl h
 |f+1,x,h=>by
  rw[vZ] at h|-;by_cases hk:nG O q x=true
  .rw[iP hk];exact⟨x,Int.le_refl _,om,hk,rfl⟩
  .rw[iN hk] at h|-;obtain⟨y,B,C,A⟩:=zJ f (x+1) h;exact⟨y,om,om,A⟩
theorem J0{O:aQ}{q:Int}:∀(f:Nat) (x:Int),(∃y:Int,x<=y/\y<x+(f:Int)/\nG O q y=true/\kK O q y≠[])->(∀y,nG O q y=true->kK O q y≠[])->vZ O q f x≠[]
 |0,x,⟨y,h1,h2,_⟩,_=>om
 |f+1,x,⟨y,h1,h2,h3,h4⟩,hne=>by
  rw[vZ];by_cases hk:nG O q x=true
  .rw[iP hk];exact hne x hk
  .rw[iN hk];refine J0 f (x+1) ⟨y,?_,om,h3,h4⟩ hne;have:y≠x:=fun e=>hk (e▸h3);omega
