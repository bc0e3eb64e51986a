/- Texts of a claim, merged. -/
import Derived.Test.YtpfhoemohibniaaGreatDoorZA8
import Derived.Test.YtpfhoemohibniaaGreatDoorZA9
set_option maxRecDepth 100000
set_option maxHeartbeats 32000000
namespace Go.Proofs.YtpfhoemohibniaaGreatDoor
section
variable {P M:Int}
theorem FP(x p:Int)(A:2<=p)(m:Nat):bU x p (m+1)=x%p::bU (x/p) p m:=by
 unfold bU;rw[List.range_succ_eq_map,List.map_cons,List.map_map];congr 1
 .rw[Int.pow_zero,Int.ediv_one]
 .refine List.map_congr_left fun i _=>?_;show x/p^(i+1)%p=x/p/p^i%p;congr 1;rw[Int.pow_succ,Int.mul_comm,Int.ediv_ediv_of_nonneg (by omega)]
theorem vL{p:Int}(A:2<=p):∀(m:Nat) (x:Int),0<=x->x<p^m->bL p (bU x p m)=x
 |0,x,h0,h1=>by
  rw[Int.pow_zero] at h1;obtain rfl:x=0:=by omega
  rfl
 |m+1,x,h0,h1=>by rw[FP x p A,bL,vL A m (x/p) (Int.ediv_nonneg h0 (by omega)) (Int.ediv_lt_of_lt_mul (by omega) (by rw[Int.pow_succ] at h1;exact h1)),Int.mul_comm];exact Int.mul_ediv_add_emod x p
def dg(P M x:Int):Nat->Int:=fn (cJ P M x)
theorem dB(P M x:Int):Sup M.toNat (dg P M x):=fun j A=>aW (by rw[gY];exact A)
theorem QP(A:2<=P)(x:Int)(i:Nat):0<=dg P M x i/\dg P M x i<P:=rQ A i
theorem yV(A:2<=P)(x:Int)(i:Nat):dg P M x i%P=dg P M x i:=Int.emod_eq_of_lt (QP A x i).1 (QP A x i).2
theorem DL(D:aC P M≠0){x:Int}(A:0<=x)(B:x<aC P M):bL P (cJ P M x)=x:=by obtain⟨C,_,_,_,_,E⟩:=bN D;unfold cJ;rw[show inQ (aC P M) x=x by unfold inQ;rw[if_pos ⟨A,B⟩]];exact vL C _ _ A (by rw[<-E];exact B)
theorem jF(B:aC P M≠0){x y:Int}(C:0<=x/\x<aC P M)(D:0<=y/\y<aC P M)(h:∀i,i<M.toNat->dg P M x i=dg P M y i):x=y:=by
 have e:cJ P M x=cJ P M y:=by refine List.ext_getElem (by rw[gY,gY]) fun i A E=>?_;have:=h i (by rw[gY] at A;exact A);simpa[dg,fn,List.getD,A,E] using this
 rw[<-DL B C.1 C.2,e,DL B D.1 D.2]
theorem tZ(B:aC P M≠0){d:LI}(D:d.length=M.toNat)(A:∀i,i<d.length->0<=d.getD i 0/\d.getD i 0<P){i:Nat}(hi:i<M.toNat):dg P M (bL P d) i=d.getD i 0:=by obtain⟨C,_,_,_,_,E⟩:=bN B;have hb:=lB B D A;unfold dg fn cJ;rw[show inQ (aC P M) (bL P d)=bL P d by unfold inQ;rw[if_pos hb],eI hi];exact pB C i d A (by omega)
theorem nK(B:aC P M≠0)(x y:Int){i:Nat}(hi:i<M.toNat):dg P M (dT P M x y) i=(dg P M x i+dg P M y i)%P:=by
 obtain⟨C,_,_,_,_,_⟩:=bN B;unfold dT;rw[tZ B (aT _ _) (fun k A=>by rw[aT] at A;rw[aS A];exact⟨Int.emod_nonneg _ (by omega),Int.emod_lt_of_pos _ (by omega)⟩) hi,aS hi];rfl
theorem WN(B:aC P M≠0)(x:Int){i:Nat}(hi:i<M.toNat):dg P M (fZ P M x) i=(P-dg P M x i)%P:=by
 obtain⟨C,_,_,_,_,_⟩:=bN B;unfold fZ;rw[tZ B (aT _ _) (fun k A=>by rw[aT] at A;rw[aS A];exact⟨Int.emod_nonneg _ (by omega),Int.emod_lt_of_pos _ (by omega)⟩) hi,aS hi];rfl
theorem ED{Mod:LI}(D:1<=M)(C:pW P M Mod):Sup M.toNat (fn Mod):=fun j E=>aW (by
 obtain⟨A,B⟩:=C;by_cases e:M=1
 .rw[A e];simp
 .have:=(B e).1;omega)
theorem gQ{Mod:LI}(C:aC P M≠0)(H:pW P M Mod)(x y:Int){i:Nat}(hi:i<M.toNat):dg P M (bO P M Mod x y) i=eT (fn Mod) M.toNat (dg P M x) (dg P M y) i%P:=by
 obtain⟨F,_,E,_,_,_⟩:=bN C;have D:=fun j G=>CT (p:=P) F (N:=M.toNat) (by omega) (ED E H) (a:=cJ P M x) (b:=cJ P M y) (dB P M x) (dB P M y) (j:=j) G;have B:(mY P Mod (cJ P M x) (cJ P M y) M.toNat).length=M.toNat:=by unfold mY;rw[aY3,jZ,kI];omega
 unfold bO;rw[tZ C B (fun k A=>by rw[B] at A;rw[D k A];exact⟨Int.emod_nonneg _ (by omega),Int.emod_lt_of_pos _ (by omega)⟩) hi,D i hi];rfl
theorem mT(A:aC P M≠0)(i:Nat):dg P M 0 i=0:=by
 obtain⟨B,_,_,_,_,C⟩:=bN A;by_cases hi:i<M.toNat
 .unfold dg fn cJ;rw[show inQ (aC P M) 0=0 by unfold inQ;split<;>rfl,eI hi,Int.zero_ediv,Int.zero_emod]
 .exact dB P M 0 i (by omega)
theorem cG(B:aC P M≠0):1<aC P M:=by obtain⟨A,_,C,_,_,D⟩:=bN B;have:=cY A (show 1<=M.toNat by omega);rw[Int.pow_one] at this;omega
theorem I2(A:aC P M≠0):dg P M 1=aL 0:=by
 obtain⟨C,_,D,_,_,E⟩:=bN A;have B:=cG A;funext i;by_cases hi:i<M.toNat
 .unfold dg fn cJ;rw[show inQ (aC P M) 1=1 by unfold inQ;rw[if_pos ⟨by omega,B⟩],eI hi];unfold aL;by_cases e:i=0
  .rw[if_pos e,e,Int.pow_zero,Int.ediv_one];exact Int.emod_eq_of_lt (by omega) (by omega)
  .rw[if_neg e];have:=cY C (show 1<=i by omega);rw[Int.pow_one] at this;rw[Int.ediv_eq_zero_of_lt (by omega) (by omega),Int.zero_emod]
 .rw[dB P M 1 i (by omega)];unfold aL;rw[if_neg (by omega)]
end
theorem kP:∀(n:Nat) (f:Nat->Nat),(∀i,i<n->f i<n)->(∀i j,i<n->j<n->f i=f j->i=j)->∀y,y<n->∃i,i<n/\f i=y
 |0,_,_,_,y,hy=>absurd hy (by omega)
 |n+1,f,h1,h2,y,hy=>by
   by_cases hn:f n=n
   . have D : ∀ i, i < n -> f i < n := fun i hi => by
       have:=h1 i (by omega);have:f i≠n:=fun e=>by have:=h2 i n (by omega) (by omega) (by rw[e,hn]);omega
       omega
     by_cases e:y=n
     . exact⟨n,by omega,by rw[hn,e]⟩
     . obtain⟨i,hi,B⟩:=kP n f D (fun i j hi G=>h2 i j (by omega) (by omega)) y (by omega);exact⟨i,by omega,B⟩
   . --the value n is taken where another one goes to f n
     have D:∀i,i<n->(if f i=n then f n else f i)<n:=fun i hi=>by have a:=h1 i (by omega);have b:=h1 n (by omega);split<;>omega
     have F:∀i j,i<n->j<n->(if f i=n then f n else f i)=(if f j=n then f n else f j)->i=j:=fun i j hi G e=>by
       by_cases A:f i=n
       . by_cases C:f j=n
         . exact h2 i j (by omega) (by omega) (by omega)
         . rw[if_pos A,if_neg C] at e;have:=h2 n j (by omega) (by omega) e;omega
       . by_cases C:f j=n
         . rw[if_neg A,if_pos C] at e;have:=h2 i n (by omega) (by omega) e;omega
         . rw[if_neg A,if_neg C] at e;exact h2 i j (by omega) (by omega) e
     by_cases e:y=n
     . --n must be hit:else f maps n+1 numbers into n
       obtain⟨i,hi,B⟩:=kP n (fun i=>if f i=n then f n else f i) D F (f n) (by have:=h1 n (by omega);omega);by_cases A:f i=n
       . exact⟨i,by omega,by rw[A,e]⟩
       . rw[if_neg A] at B;have:=h2 i n (by omega) (by omega) B;omega
     . by_cases E:y=f n
       . exact⟨n,by omega,E.symm⟩
       . obtain⟨i,hi,B⟩:=kP n (fun i=>if f i=n then f n else f i) D F y (by omega);by_cases A:f i=n
         . rw[if_pos A] at B;exact absurd B.symm E
         . rw[if_neg A] at B;exact⟨i,by omega,B⟩
section
variable {P M:Int} {Mod:LI}
theorem wW(x:Int):∀k:Nat,0<=dM P M Mod x k/\(dM P M Mod x k<k\/dM P M Mod x k=0)
 |0=>⟨Int.le_refl _,.inr rfl⟩
 |k+1=>by
  have A:=wW x k;rw[dM];split
  .exact⟨A.1,by omega⟩
  .split
   .exact⟨by omega,by omega⟩
   .exact⟨Int.le_refl _,.inr rfl⟩
theorem CH{x:Int}:∀k:Nat,dM P M Mod x k≠0->bO P M Mod x (dM P M Mod x k)=1
 |0,h=>absurd rfl h
 |k+1,h=>by
  rw[dM] at h|-;by_cases e:dM P M Mod x k≠0
  .rw[if_pos e];exact CH k e
  .rw[if_neg e] at h|-;by_cases A:k≠0/\bO P M Mod x k=1
   .rw[if_pos A];exact A.2
   .rw[if_neg A] at h;exact absurd rfl h
theorem zJ{x:Int}{y:Nat}(B:y≠0)(A:bO P M Mod x y=1):∀k,y<k->dM P M Mod x k≠0
 |0,h=>absurd h (by omega)
 |k+1,h=>by
  rw[dM];by_cases e:dM P M Mod x k≠0
  .rw[if_pos e];exact e
  .rw[if_neg e];by_cases C:y=k
   .subst C;rw[if_pos ⟨B,A⟩];omega
   .exact absurd (zJ B A k (by omega)) e
theorem J6(A:aC P M≠0)(C:pW P M Mod)(g:∀a b,Sup M.toNat a->Sup M.toNat b->Cg P (eT (fn Mod) M.toNat a b) dS->Cg P a dS\/Cg P b dS):(aB P M Mod).Fld (aC P M):=by
 obtain⟨F,_,X,_,_,u⟩:=bN A;have Y:0<M.toNat:=by omega
 have hq:=cG A;have t:=ED X C;have hA:=DR (P:=P) (M:=M) A;have B:=mZ (P:=P) (M:=M) A Mod;have J:=fun x y=>Cg.trans (p:=P) (a:=dg P M (bO P M Mod x y)) (b:=fun i=>eT (fn Mod) M.toNat (dg P M x) (dg P M y) i%P) (c:=eT (fn Mod) M.toNat (dg P M x) (dg P M y)) (fun i=>by
   by_cases hi:i<M.toNat
   . rw[gQ A C x y hi]
   . rw[dB P M _ i (by omega)];dsimp only;rw[zU (fn Mod) M.toNat (dB P M x) _ i (by omega)];rfl) (fun i=>Int.emod_emod_of_dvd _ (Int.dvd_refl P))
 have l:∀x y,bO P M Mod x y=bO P M Mod y x:=fun x y=>jF A (B x y) (B y x) fun i hi=>by rw[gQ A C x y hi,gQ A C y x hi,gL _ _ (dB P M x) (dB P M y)]
 have O:∀x,bO P M Mod x 0=0:=fun x=>jF A (B x 0) ⟨Int.le_refl _,by omega⟩ fun i hi=>by
   rw[gQ A C x 0 hi,mT A];have:eT (fn Mod) M.toNat (dg P M x) (dg P M 0) i=0:=jC fun k _=>by rw[mT A,Int.zero_mul]
   rw[this,Int.zero_emod]
 have m:∀x,0<=x->x<aC P M->bO P M Mod x 1=x:=fun x E D=>jF A (B x 1) ⟨E,D⟩ fun i hi=>by rw[gQ A C x 1 hi,I2 A,GN _ _ Y,yV F]
 have N:∀x y z,bO P M Mod x (dT P M y z)=dT P M (bO P M Mod x y) (bO P M Mod x z):=fun x y z=>jF A (B _ _) (hA _ _) fun i hi=>by
   rw[gQ A C _ _ hi,nK A _ _ hi,gQ A C _ _ hi,gQ A C _ _ hi];have e:∀k,dg P M (dT P M y z) k%P=(fun k=>dg P M y k+dg P M z k) k%P:=fun k=>by
     by_cases K:k<M.toNat
     . rw[nK A _ _ K,Int.emod_emod_of_dvd _ (Int.dvd_refl P)]
     . dsimp only;rw[dB P M _ k (by omega),dB P M y k (by omega),dB P M z k (by omega)];rfl
   have h:=uW (fn Mod) M.toNat (Cg.refl P (dg P M x)) e i;rw[h,R0];exact Int.add_emod _ _ _
 have H:∀x,dT P M x (fZ P M x)=0:=fun x=>jF A (hA _ _) ⟨Int.le_refl _,by omega⟩ fun i hi=>by rw[nK A _ _ hi,WN A _ hi,mT A,Int.add_emod,Int.emod_emod_of_dvd _ (Int.dvd_refl P),<-Int.add_emod,show dg P M x i+(P-dg P M x i)=P by omega,Int.emod_self]
 have I:∀x,0<=x->x<aC P M->dT P M x 0=x:=fun x E D=>jF A (hA _ _) ⟨E,D⟩ fun i hi=>by rw[nK A _ _ hi,mT A,Int.add_zero,yV F]
 have G:∀x y,dT P M x y=dT P M y x:=fun x y=>jF A (hA _ _) (hA _ _) fun i hi=>by rw[nK A _ _ hi,nK A _ _ hi,Int.add_comm]
 have Q:∀x y z,dT P M (dT P M x y) z=dT P M x (dT P M y z):=fun x y z=>jF A (hA _ _) (hA _ _) fun i hi=>by rw[nK A _ _ hi,nK A _ _ hi,nK A _ _ hi,nK A _ _ hi,Int.emod_add_emod,Int.add_emod_emod,Int.add_assoc]
 refine⟨eW A Mod,fun x=>VM A x,fun x=>?_,G,Q,I,H,l,fun x y z=>?_,m,N,O,fun x E D=>?_⟩
 . have:=wW (P:=P) (M:=M) (Mod:=Mod) x (aC P M).toNat
   show 0<=dM P M Mod x (aC P M).toNat/\dM P M Mod x (aC P M).toNat<aC P M;omega
 . refine jF A (B _ _) (B _ _) fun i hi=>?_;show dg P M (bO P M Mod (bO P M Mod x y) z) i=dg P M (bO P M Mod x (bO P M Mod y z)) i;rw[gQ A C _ _ hi,gQ A C _ _ hi];have D:=uW (fn Mod) M.toNat (J x y) (fun k=>(rfl:dg P M z k%P=dg P M z k%P)) i;have W:=uW (fn Mod) M.toNat (Cg.refl P (dg P M x)) (J y z) i;rw[D,W,zT _ _ (dB P M x) (dB P M y) (dB P M z)]
 . --the multiples of x are all different
   have Z:∀i j:Nat,i<(aC P M).toNat->j<(aC P M).toNat->(bO P M Mod x i).toNat=(bO P M Mod x j).toNat->i=j:=fun i j hi s e=>by
     have n:=B x i;have o:=B x j;have R:bO P M Mod x i=bO P M Mod x j:=by omega
     have S:bO P M Mod x (dT P M i (fZ P M j))=0:=by rw[N,R,<-N,H,O]
     have T:Cg P (eT (fn Mod) M.toNat (dg P M x) (dg P M (dT P M i (fZ P M j)))) dS:=(J x _).symm.trans (by rw[S];exact fun k=>by rw[mT A];rfl);rcases g _ _ (dB P M x) (dB P M _) T with h|h
     . exfalso;have : x = 0 := jF A ⟨by omega, D⟩ ⟨Int.le_refl _, by omega⟩ fun k K => by
         have:=h k;rw[yV F] at this;rw[this,mT A];exact Int.zero_emod P
       omega
     . have U : dT P M i (fZ P M j) = 0 := jF A (hA _ _) ⟨Int.le_refl _, by omega⟩ fun k K => by
         have:=h k;rw[yV F] at this;rw[this,mT A];exact Int.zero_emod P
       have q:(i:Int)=j:=by
         have V:dT P M (dT P M i (fZ P M j)) j=i:=by rw[Q,G (fZ P M j),H,I _ (by omega) (by omega)]
         rw[U,G,I _ (by omega) (by omega)] at V;omega
       omega
   obtain⟨y,d,r⟩:=kP (aC P M).toNat (fun i=>(bO P M Mod x i).toNat) (fun i _=>by have:=B x i;omega) Z 1 (by omega);have L:bO P M Mod x y=1:=by have:=B x y;omega
   have f:y≠0:=fun e=>by rw[e] at L;have:=O x;rw[show((0:Nat):Int)=0 from rfl] at L;omega
   show bO P M Mod x (dM P M Mod x (aC P M).toNat)=1;exact CH _ (zJ f L _ d)
theorem dU(h:cK P M Mod):(aB P M Mod).Fld (aC P M):=by
 obtain⟨D,E,C,H⟩:=h;obtain⟨N,_,L,_,_,_⟩:=bN D;refine J6 D C fun a b B hb A=>?_;by_cases e:M=1
 .subst e;have hm:Mod=[]:=C.1 rfl;subst hm;have F:(fn []:Nat->Int)=fn [0]:=by
   funext i;unfold fn
   match i with
   |0=>rfl
   |i+1=>simp[List.getD]
  rw[F] at A;exact oI E (low:=[0]) (by simp) (fun k=>by
   match k with
   |0=>simp[List.getD];omega
   |k+1=>simp[List.getD];omega) (by unfold uN pV;rfl) B hb A
 .obtain⟨K,G⟩:=C.2 e;have J:Mod.length=M.toNat:=by omega
  rw[<-J] at B hb A;refine oI E (by omega) (fun k=>?_) (H e) B hb A;by_cases I:k<Mod.length
  .exact G k I
  .rw[aW (by omega)];omega
end
theorem NN:∀n:Nat,2<=n->∃r,2<=r/\r∣n/\∀m:Nat,r∣m\/Nat.Coprime r m:=by
 intro n hn;have E:∀k,∀r,r<=k->2<=r->r∣n->∃r,2<=r/\r∣n/\∀s,2<=s->s∣n->r<=s:=by
  intro k
  induction k with
  |zero=>intro r B A;omega
  |succ k ih=>
   intro r B A C;by_cases h:∃s,s<r/\2<=s/\s∣n
   .obtain⟨s,a,b,c⟩:=h;exact ih s (by omega) b c
   .exact⟨r,A,C,fun s a b=>Nat.le_of_not_lt fun G=>h ⟨s,G,a,b⟩⟩
 obtain⟨r,B,A,C⟩:=E n n zr hn (Nat.dvd_refl n);refine⟨r,B,A,fun m=>?_⟩;by_cases h:Nat.gcd r m=1
 .exact .inr h
 .left;have D:Nat.gcd r m∣r:=Nat.gcd_dvd_left r m;have F:Nat.gcd r m∣m:=Nat.gcd_dvd_right r m;have H:0<Nat.gcd r m:=Nat.gcd_pos_of_pos_left _ (by omega);have I:=C (Nat.gcd r m) (by omega) (Nat.dvd_trans D A);have J:=Nat.le_of_dvd (by omega) D;rwa[show Nat.gcd r m=r by omega] at F
theorem GU{r:Nat}(G:2<=r):∀k:Nat,0<k->∃a A,k=r^a*A/\¬r∣A/\0<A:=by
 intro k
 induction k using Nat.strongRecOn with
 |ind k ih=>
  intro B;by_cases h:r∣k
  .obtain⟨m,rfl⟩:=h;have hm:0<m:=Nat.pos_of_ne_zero fun e=>by rw[e] at B;omega
   have F:m<r*m:=by have:=Nat.mul_le_mul_right m G;omega
   obtain⟨a,A,C,D,E⟩:=ih m F hm;exact⟨a+1,A,by rw[C,Nat.pow_succ,Nat.mul_comm (r^a) r,Nat.mul_assoc],D,E⟩
  .exact⟨0,k,by rw[Nat.pow_zero,Nat.one_mul],h,B⟩
theorem OD:∀k:Nat,0<k->∀e,¬k∣e->∃r a,2<=r/\(∀m:Nat,r∣m\/Nat.Coprime r m)/\r^a∣k/\¬r^a∣e:=by
 intro k
 induction k using Nat.strongRecOn with
 |ind k ih=>
  intro M e G;have O:2<=k:=by refine Nat.le_of_not_lt fun h=>G ?_;rw[show k=1 by omega];exact Nat.one_dvd e
  obtain⟨r,C,D,E⟩:=NN k O;obtain⟨a,A,B,F,J⟩:=GU C k M;by_cases h:r^a∣e
  .have L:Nat.Coprime (r^a) A:=Nat.Coprime.pow_left a ((E A).resolve_left F);have N:¬A∣e:=fun I=>G (by rw[B];exact Nat.Coprime.mul_dvd_of_dvd_of_dvd L h I);have U:a≠0:=fun H=>by
    rw[H,Nat.pow_zero,Nat.one_mul] at B;rw[B] at D;exact F D
   have P:A<k:=by
    have K:2<=r^a:=by have:=Nat.pow_le_pow_right (show 0<r by omega) (show 1<=a by omega);rw[Nat.pow_one] at this;omega
    have:=Nat.mul_le_mul_right A K;omega
   obtain⟨s,b,Q,R,S,T⟩:=ih A P J e N;exact⟨s,b,Q,R,by rw[B];exact Nat.dvd_mul_left_of_dvd S _,T⟩
  .exact⟨r,a,C,E,by rw[B];exact Nat.dvd_mul_right _ _,h⟩
section
variable {O:aO} {q:Int} (hO:O.Fld q)
def bG(O:aO)(x:Int):Nat->Int
 |0=>1
 |k+1=>O.mul (bG O x k) x
def cR(q x:Int):Prop:=0<x/\x<q
include hO
theorem qT:cR q 1:=⟨by omega,by have:=hO.lt.pos;omega⟩
theorem zV{x y:Int}(A:cR q x)(B:cR q y):cR q (O.mul x y):=by
 have h:=hO.lt.mul x y;have:O.mul x y≠0:=fun e=>by
  rcases hO.mul_eq_zero ⟨by have:=A.1;omega,A.2⟩ ⟨by have:=B.1;omega,B.2⟩ e with h|h
  .have:=A.1;omega
  .have:=B.1;omega
 exact⟨by omega,h.2⟩
theorem bV{x:Int}(A:cR q x):∀k,cR q (bG O x k)
 |0=>qT hO
 |k+1=>zV hO (bV A k) A
theorem gN{x:Int}(A:cR q x):O.mul 1 x=x:=hO.one_mul (by have:=A.1;omega) A.2
theorem mN{x:Int}(A:cR q x)(a:Nat):∀b,bG O x (a+b)=O.mul (bG O x a) (bG O x b)
 |0=>by rw[bG,hO.mul_one _ (by have:=(bV hO A a).1;omega) (bV hO A a).2];rfl
 |b+1=>by rw[show a+(b+1)=(a+b)+1 by omega,bG,mN A a b,bG,hO.mul_assoc]
theorem gM:∀k,bG O 1 k=1
 |0=>rfl
 |k+1=>by rw[bG,gM k];exact hO.one_mul (by omega) (by have:=hO.lt.pos;omega)
theorem mO{x:Int}(A:cR q x)(a:Nat):∀b,bG O x (a*b)=bG O (bG O x a) b
 |0=>rfl
 |b+1=>by rw[Nat.mul_succ,mN hO A,mO A a b];rfl
theorem uX{x y:Int}(A:cR q x)(B:cR q y):∀k,bG O (O.mul x y) k=O.mul (bG O x k) (bG O y k)
 |0=>(hO.one_mul (x:=1) (by omega) (by have:=hO.lt.pos;omega)).symm
 |k+1=>by rw[bG,uX A B k,bG,bG,hO.mul_assoc,hO.mul_assoc];congr 1;rw[<-hO.mul_assoc,hO.mul_comm _ x,hO.mul_assoc]
theorem xC{x y z:Int}(A:cR q x)(B:cR q y)(C:cR q z)(h:O.mul x y=O.mul x z):y=z:=by
 have e:O.mul (O.inv x) (O.mul x y)=O.mul (O.inv x) (O.mul x z):=by rw[h]
 rw[<-hO.mul_assoc,<-hO.mul_assoc,hO.mul_comm (O.inv x),hO.mul_inv x A.1 A.2,gN hO B,gN hO C] at e;exact e
omit hO in
def fV(O:aO)(x:Int)(k:Nat):Prop:=1<=k/\bG O x k=1/\∀j,1<=j->j<k->bG O x j≠1
theorem vE{x:Int}(A:cR q x){i j:Nat}(B:i<=j)(h:bG O x i=bG O x j):bG O x (j-i)=1:=by refine xC hO (bV hO A i) (bV hO A _) (qT hO) ?_;rw[<-mN hO A,show i+(j-i)=j by omega,<-h,hO.mul_one _ (by have:=(bV hO A i).1;omega) (bV hO A i).2]
theorem kE{x:Int}(A:cR q x){k:Nat}(h:fV O x k)(m:Nat):bG O x m=1↔k∣m:=by
 obtain⟨F,B,C⟩:=h;constructor
 .intro hm;refine Nat.dvd_of_mod_eq_zero (Nat.eq_zero_of_not_pos fun E=>?_);have D:=Nat.mod_lt m (show k>0 by omega);refine C (m%k) E D ?_;have e:m=k*(m/k)+m%k:=(Nat.div_add_mod m k).symm;rw[e,mN hO A,mO hO A,B,gM hO,gN hO (bV hO A _)] at hm;exact hm
 .rintro ⟨t,rfl⟩;rw[mO hO A,B,gM hO]
omit hO in
theorem zY{x:Int}{k:Nat}(A:1<=k)(h:∀m,bG O x m=1↔k∣m):fV O x k:=
 ⟨A,(h k).2 (Nat.dvd_refl k),fun j B C e=>by have:=Nat.le_of_dvd (by omega) ((h j).1 e);omega⟩
theorem D9{x:Int}(A:cR q x):∃k,fV O x k/\(k:Int)<q:=by
 --two powers meet
 have K:∃i j:Nat,i<j/\(j:Int)<q/\bG O x i=bG O x j:=by
  refine aY0 fun G=>?_;have I:∀i j:Nat,i<q.toNat->j<q.toNat->(bG O x i).toNat=(bG O x j).toNat->i=j:=fun i j hi J e=>by
   have a:=bV hO A i;have b:=bV hO A j;have D:bG O x i=bG O x j:=by have:=a.1;have:=b.1;omega
   rcases Nat.lt_trichotomy i j with h|h|h
   .exact absurd ⟨i,j,h,by omega,D⟩ G
   .exact h
   .exact absurd ⟨j,i,h,by omega,D.symm⟩ G
  obtain⟨i,_,F⟩:=kP q.toNat (fun i=>(bG O x i).toNat) (fun i _=>by have a:=bV hO A i;have b:=a.1;have c:=a.2;omega) I 0 (by have:=hO.lt.pos;omega);have:=(bV hO A i).1;omega
 obtain⟨i,j,M,J,F⟩:=K;have B:=vE hO A (by omega) F;have L:∀n k:Nat,k<=n->1<=k->bG O x k=1->∃m,m<=k/\fV O x m:=by
  intro n
  induction n with
  |zero=>intro k B E;omega
  |succ n ih=>
   intro k B E H;by_cases h:∃j,1<=j/\j<k/\bG O x j=1
   .obtain⟨j,a,b,c⟩:=h;obtain⟨m,hm,C⟩:=ih j (by omega) a c;exact⟨m,by omega,C⟩
   .exact⟨k,Nat.le_refl _,E,H,fun j a b c=>h ⟨j,a,b,c⟩⟩
 obtain⟨m,hm,C⟩:=L (j-i) (j-i) zr (by omega) B;exact⟨m,C,by omega⟩
theorem CY{x:Int}(B:cR q x){a b:Nat}(h:fV O x (a*b)):fV O (bG O x a) b:=by
 have A:=h.1;have C:0<a:=Nat.pos_of_ne_zero fun e=>by rw[e] at A;omega
 have hb:0<b:=Nat.pos_of_ne_zero fun e=>by rw[e] at A;omega
 refine zY hb fun m=>?_;rw[<-mO hO B,kE hO B h];exact⟨Nat.dvd_of_mul_dvd_mul_left C,Nat.mul_dvd_mul_left a⟩
theorem VP{x y:Int}(A:cR q x)(B:cR q y){a b:Nat}(C:fV O x a)(hb:fV O y b)(D:Nat.Coprime a b):fV O (O.mul x y) (a*b):=by
 have J:=C.1;have K:=hb.1;have E:=zV hO A B;refine zY (Nat.mul_pos J K) fun m=>?_;constructor
 .intro hm;have H:bG O x (m*b)=1:=by
   have:=uX hO A B (m*b);rw[mO hO E,hm,gM hO,(kE hO B hb (m*b)).2 (Nat.dvd_mul_left b m),hO.mul_one _ (by have:=(bV hO A (m*b)).1;omega) (bV hO A _).2] at this;exact this.symm
  have I:bG O y (m*a)=1:=by have:=uX hO A B (m*a);rw[mO hO E,hm,gM hO,(kE hO A C (m*a)).2 (Nat.dvd_mul_left a m),gN hO (bV hO B _)] at this;exact this.symm
  have F:a∣m:=Nat.Coprime.dvd_of_dvd_mul_right D ((kE hO A C _).1 H);have G:b∣m:=Nat.Coprime.dvd_of_dvd_mul_right D.symm ((kE hO B hb _).1 I);exact Nat.Coprime.mul_dvd_of_dvd_of_dvd D F G
 .intro hm;rw[uX hO A B,(kE hO A C m).2 (Nat.dvd_trans (Nat.dvd_mul_right a b) hm),(kE hO B hb m).2 (Nat.dvd_trans (Nat.dvd_mul_left b a) hm)];exact gN hO (qT hO)
theorem VE:∃x e,cR q x/\fV O x e/\(e:Int)<q/\∀y,cR q y->bG O y e=1:=by
 have L:∀n:Nat,∀x e,(q.toNat-e<=n)->cR q x->fV O x e->(e:Int)<q->∃x e,cR q x/\fV O x e/\(e:Int)<q/\∀y k,cR q y->fV O y k->k<=e:=by
  intro n
  induction n with
  |zero=>intro x e A _ _ E;omega
  |succ n ih=>
   intro x e A B H E;by_cases h:∃y k,cR q y/\fV O y k/\e<k
   .obtain⟨y,k,a,b,c⟩:=h;obtain⟨G,F,K⟩:=D9 hO a;have:k=G:=by
     have d:=(kE hO a b G).1 F.2.1;have f:=(kE hO a F k).1 b.2.1;exact Nat.dvd_antisymm d f
    exact ih y k (by omega) a b (by omega)
   .exact⟨x,e,B,H,E,fun y k a b=>Nat.le_of_not_lt fun c=>h ⟨y,k,a,b,c⟩⟩
 obtain⟨W,T,K⟩:=D9 hO (qT hO);obtain⟨x,e,A,B,H,E⟩:=L _ 1 W zr (qT hO) T K;refine⟨x,e,A,B,H,fun y C=>?_⟩;obtain⟨k,J,_⟩:=D9 hO C;rw[kE hO C J];refine aY0 fun V=>?_;obtain⟨r,a,g,i,⟨G,F⟩,j⟩:=OD k J.1 e V;obtain⟨b,D,I,N,P⟩:=GU g e B.1;have R:b<a:=Nat.lt_of_not_le fun U=>j (by rw[I];exact Nat.dvd_mul_right_of_dvd (Nat.pow_dvd_pow r U) _);have X:fV O (bG O x (r^b)) D:=CY hO A (by rw[<-I];exact B);have Y:fV O (bG O y G) (r^a):=CY hO C (by rw[Nat.mul_comm,<-F];exact J);have S:Nat.Coprime D (r^a):=(Nat.Coprime.pow_left a ((i D).resolve_left N)).symm;have Z:=VP hO (bV hO A _) (bV hO C _) X Y S;have l:=E _ _ (zV hO (bV hO A _) (bV hO C _)) Z;have Q:r^b<r^a:=Nat.pow_lt_pow_right (by omega) R;have M:=Nat.mul_lt_mul_of_pos_left Q P;rw[Nat.mul_comm D (r^b),<-I] at M;omega
omit hO in
def oE(O:aO)(c:Nat->Int):Nat->Int->Int
 |0,_=>1
 |d+1,x=>O.add (O.mul x (oE O c d x)) (c d)
theorem VH(c:Nat->Int)(x:Int):∀d,0<=oE O c d x/\oE O c d x<q
 |0=>⟨by show(0:Int)<=1;omega,by have:=hO.lt.pos;show(1:Int)<q;omega⟩
 |d+1=>hO.lt.add _ _
theorem zQ(c:Nat->Int)(r x:Int):∀d,oE O c (d+1) x=O.add (O.mul (O.add x (O.neg r)) (oE O (fun i=>oE O c (i+1) r) d x)) (oE O c (d+1) r)
 |0=>by show O.add (O.mul x 1) (c 0)=O.add (O.mul (O.add x (O.neg r)) 1) (O.add (O.mul r 1) (c 0));rw[<-hO.add_assoc,hO.add_mul,hO.add_assoc (O.mul x 1),hO.neg_mul,hO.neg_add,hO.add_zero _ (hO.lt.mul _ _).1 (hO.lt.mul _ _).2]
 |d+1=>by
  have A:=zQ c r x d;show O.add (O.mul x (oE O c (d+1) x)) (c (d+1))=O.add (O.mul (O.add x (O.neg r)) (O.add (O.mul x (oE O (fun i=>oE O c (i+1) r) d x)) (oE O c (d+1) r))) (O.add (O.mul r (oE O c (d+1) r)) (c (d+1)));rw[A];generalize oE O (fun i=>oE O c (i+1) r) d x=Q;generalize oE O c (d+1) r=R;generalize c (d+1)=z;rw[<-hO.add_assoc];congr 1;rw[hO.mul_add,hO.mul_add,hO.add_assoc];congr 1
  .rw[<-hO.mul_assoc,<-hO.mul_assoc,hO.mul_comm x]
  .rw[hO.add_mul,hO.add_assoc,hO.neg_mul,hO.neg_add,hO.add_zero _ (hO.lt.mul _ _).1 (hO.lt.mul _ _).2]
theorem G5:∀(d:Nat) (c:Nat->Int) (L:LI),L.Nodup->(∀x,x∈L->0<=x/\x<q/\oE O c d x=0)->L.length<=d
 |_,_,[],_,_=>aZ5 _
 |0,c,r::L,_,h=>by have:=(h r (List.mem_cons_self ..)).2.2;exact absurd this (by show(1:Int)≠0;decide)
 |d+1,c,r::L,hn,h=>by
  obtain⟨G,H⟩:=List.nodup_cons.1 hn;obtain⟨I,J,K⟩:=h r (List.mem_cons_self ..);have:=G5 d (fun i=>oE O c (i+1) r) L H fun x B=>by
   obtain⟨C,D,E⟩:=h x (List.mem_cons_of_mem _ B);rw[zQ hO c r x d,K,hO.add_zero _ (hO.lt.mul _ _).1 (hO.lt.mul _ _).2] at E;refine⟨C,D,(hO.mul_eq_zero (hO.lt.add _ _) (VH hO _ _ _) E).resolve_left fun e=>?_⟩;have F:O.neg x=O.neg r:=by rw[<-hO.neg_unique (hO.neg_lt r) e]
   have A:=congrArg O.neg F;rw[hO.neg_neg C D,hO.neg_neg I J] at A;exact G (A▸B)
  rw[List.length_cons];omega
theorem WM:∃x,cR q x/\fV O x (q.toNat-1):=by
 obtain⟨x,e,D,A,G,E⟩:=VE hO;have hq:=hO.lt.pos;have H:=A.1;obtain⟨d,rfl⟩:∃d,e=d+1:=⟨e-1,by omega⟩
 --1 to q-1 are roots of X^e-1
 have hm:∀y,∀k,k<=d->cR q y->oE O (fun i=>if i=d then O.neg 1 else 0) k y=bG O y k:=by
  intro y k
  induction k with
  |zero=>intro _ _;rfl
  |succ k ih=>intro I B;show O.add (O.mul y (oE O _ k y)) (if k=d then O.neg 1 else 0)=O.mul (bG O y k) y;rw[if_neg (by omega),ih (by omega) B,hO.add_zero _ (hO.lt.mul _ _).1 (hO.lt.mul _ _).2,hO.mul_comm]
 have F:=G5 hO (d+1) (fun i=>if i=d then O.neg 1 else 0) ((List.range (q.toNat-1)).map fun i:Nat=>(i:Int)+1)
  (by rw[List.Nodup,List.pairwise_map];exact List.nodup_range.imp fun h e=>h (by omega))
  fun y B=>by
   obtain⟨i,hi,rfl⟩:=List.mem_map.1 B;rw[List.mem_range] at hi;have C:cR q ((i:Int)+1):=⟨by omega,by omega⟩
   refine⟨by omega,by omega,?_⟩;show O.add (O.mul _ (oE O _ d _)) (if d=d then O.neg 1 else 0)=0;rw[if_pos rfl,hm _ d zr C,hO.mul_comm];have:=E _ C;rw[bG] at this;rw[this,hO.add_neg]
 rw[aY7,List.length_range] at F;have:d+1=q.toNat-1:=by omega
 rw[this] at A;exact⟨x,D,A⟩
end
section
variable {P M:Int} {Mod:LI}
theorem LH(Q:lW P M Mod){x y:Int}(R:0<=x/\x<aC P M)(S:0<=y/\y<aC P M):EF P M Mod x y=bO P M Mod x y:=by
 obtain⟨O,_,F⟩:=Q;obtain⟨D,_,L,_,_,V⟩:=bN O;have C:0<M.toNat:=by omega
 have J:bU x P M.toNat=cJ P M x:=by unfold cJ;rw[show inQ (aC P M) x=x by unfold inQ;rw[if_pos R]]
 have K:bU y P M.toNat=cJ P M y:=by unfold cJ;rw[show inQ (aC P M) y=y by unfold inQ;rw[if_pos S]]
 have I:lL M Mod=Mod:=by
  unfold lL;split
  .rfl
  .exact(F.1 (by omega)).symm
 unfold EF bO;rw[J,K,I];congr 1;have E:(mY P Mod (cJ P M x) (cJ P M y) M.toNat).length=M.toNat:=by unfold mY;rw[aY3,jZ,kI];omega
 refine List.ext_getElem (by rw[oG,E]) fun j A U=>?_;rw[oG] at A;have H:=GK (p:=P) (low:=Mod) C (dB P M x) (cJ P M y) j;have T:=CT (p:=P) D (N:=M.toNat) C (ED L F) (a:=cJ P M x) (b:=cJ P M y) (dB P M x) (dB P M y) (j:=j) A;rw[gY] at H;have G:=tG (low:=Mod) (a:=cJ P M x) (N:=M.toNat) D (cJ P M y) j;have B:(fK P Mod (cJ P M x) M.toNat (cJ P M y)).getD j 0=eT (fn Mod) M.toNat (fn (cJ P M x)) (fn (cJ P M y)) j%P:=by have:fn (fK P Mod (cJ P M x) M.toNat (cJ P M y)) j%P=(fK P Mod (cJ P M x) M.toNat (cJ P M y)).getD j 0:=Int.emod_eq_of_lt G.1 G.2;rw[<-this,H];rfl
 rw[<-T] at B;simpa[List.getD,oG,E,A] using B
end
def kZ(O:aO)(x:Int)(k:Nat):Bool:=bG O x k==0||((List.range k).map (bG O x)).contains (bG O x k)
def iB(O:aO)(x:Int):Nat->Nat->Nat
 |0,k=>k
 |f+1,k=>if kZ O x k then k else iB O x f (k+1)
def iP(O:aO)(q x:Int):LI:=(List.range (iB O x q.toNat 1)).map (bG O x)
def lH(O:aO)(q x:Int):Bool:=((iP O q x).length:Int)==q-1&&O.mul ((iP O q x).getD (q-2).toNat 0) x==1
def sY(O:aO)(q:Int):Nat->Int->LI
 |0,_=>[]
 |f+1,x=>if lH O q x then iP O q x else sY O q f (x+1)
def sZ(O:aO)(q:Int):LI:=sY O q (q-1).toNat 1
theorem pN(O:aO)(x:Int):∀f k j,k<=j->j<iB O x f k->kZ O x j=false
 |0,k,j,h1,h2=>by rw[iB] at h2;omega
 |f+1,k,j,h1,h2=>by
  rw[iB] at h2;by_cases h:kZ O x k=true
  .rw[if_pos h] at h2;omega
  .rw[if_neg h] at h2;by_cases e:j=k
   .subst e;simpa using h
   .exact pN O x f (k+1) j (by omega) h2
theorem fA{O:aO}{x:Int}{k:Nat}(h:kZ O x k=false):bG O x k≠0/\∀i,i<k->bG O x i≠bG O x k:=by
 unfold kZ at h;rw[Bool.or_eq_false_iff] at h;refine⟨by simpa using h.1,fun i hi e=>?_⟩;have:((List.range k).map (bG O x)).contains (bG O x k)=true:=by rw[List.contains_iff_mem];exact List.mem_map.2 ⟨i,List.mem_range.2 hi,e⟩
 rw[h.2] at this;cases this
theorem AP{O:aO}{x:Int}{k:Nat}(h:bG O x k=0\/∃i,i<k/\bG O x i=bG O x k):kZ O x k=true:=by
 unfold kZ;rw[Bool.or_eq_true];rcases h with h|⟨i,hi,e⟩
 .left;simp[h]
 .right;rw[List.contains_iff_mem];exact List.mem_map.2 ⟨i,List.mem_range.2 hi,e⟩
theorem TK{O:aO}{q x:Int}(hO:O.Fld q)(C:cR q x){n:Nat}(h:fV O x n)(hn:(n:Int)<q):iB O x q.toNat 1=n:=by
 have E:∀j,1<=j->j<n->kZ O x j=false:=fun j A B=>by
  rw[<-Bool.not_eq_true];intro hb;unfold kZ at hb;rw[Bool.or_eq_true] at hb;rcases hb with hb|hb
  .have:=(bV hO C j).1;rw[beq_iff_eq] at hb;omega
  .rw[List.contains_iff_mem] at hb;obtain⟨i,hi,e⟩:=List.mem_map.1 hb;rw[List.mem_range] at hi;exact h.2.2 (j-i) (by omega) (by omega) (vE hO C (by omega) e)
 have key:∀f k,1<=k->k<=n->n<k+f->iB O x f k=n:=by
  intro f
  induction f with
  |zero=>intro k _ B D;omega
  |succ f ih=>
   intro k A B D;rw[iB];by_cases e:k=n
   .subst e;rw[if_pos (AP (.inr ⟨0,by have:=h.1;omega,h.2.1.symm⟩))]
   .rw[if_neg (by rw[E k A (by omega)];decide)];exact ih (k+1) (by omega) (by omega) (by omega)
 exact key _ 1 zr h.1 (by have:=h.1;omega)
theorem vV{O:aO}{q:Int}:∀(f:Nat) (x:Int),sY O q f x≠[]->∃y:Int,x<=y/\y<x+(f:Int)/\lH O q y=true/\sY O q f x=iP O q y
 |0,x,h=>absurd rfl h
 |f+1,x,h=>by
  rw[sY] at h|-;by_cases A:lH O q x=true
  .rw[if_pos A];exact⟨x,Int.le_refl _,by omega,A,rfl⟩
  .rw[if_neg A] at h|-;obtain⟨y,C,D,B⟩:=vV f (x+1) h;exact⟨y,by omega,by omega,B⟩
theorem FZ{O:aO}{q:Int}:∀(f:Nat) (x:Int),(∃y:Int,x<=y/\y<x+(f:Int)/\lH O q y=true/\iP O q y≠[])->(∀y,lH O q y=true->iP O q y≠[])->sY O q f x≠[]
 |0,x,⟨y,h1,h2,_⟩,_=>by omega
 |f+1,x,⟨y,h1,h2,h3,h4⟩,hne=>by
  rw[sY];by_cases A:lH O q x=true
  .rw[if_pos A];exact hne x A
  .rw[if_neg A];refine FZ f (x+1) ⟨y,?_,by omega,h3,h4⟩ hne;have:y≠x:=fun e=>A (e▸h3);omega
end Go.Proofs.YtpfhoemohibniaaGreatDoor
