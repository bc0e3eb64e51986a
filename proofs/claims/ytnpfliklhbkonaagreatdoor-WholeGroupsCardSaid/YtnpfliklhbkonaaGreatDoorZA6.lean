/- Parts. -/
import Derived.Test.YtnpfliklhbkonaaGreatDoorZA3
set_option maxRecDepth 99999
set_option maxHeartbeats 0
set_option linter.unusedSimpArgs false
namespace Go.Proofs.YtnpfliklhbkonaaGreatDoor
open Go.Proofs.Tryz
section
open Go.RowKit
theorem YI(w:Wo)(P M x:Int)(mv:Va)(H:aF P M≠0):Calls prog 266 #[.agg #[P,M,mv],x] w (kV w (iO P M x)):=by
 obtain⟨V,δ,t,u,hq,_⟩:=bO H;have h:=zh H;clear H;have Q:=zh hq;clear hq;obtain⟨N,C⟩:=xE (M.toNat:Nat);have v:1<=N:=om;have y:N<=8:=om;have c:Hid (iO P M x=bL P (aT N fun i=>(P-(cX P M x).getD i 0)%P)):=by rw[C];rfl
 have E:Hid ((cX P M x).length=N):=by rw[C];exact jT _ _ _
 have b:=zh (uJ (M:=M) (x:=x) V);rw[<-C] at Q;have n:=zh C;clear C;have F:=zh (dM.mk' w P M mv);go_enter func266,ntmps266;go_wp2_with fail;obtain⟨w0,Z⟩:=xE (w.alloc (.cells #[P,M,mv] 24));rw[<-Z] at F|-;clear Z;apply(mV _ P M x mv h).mono;rintro e w1⟨θ,rfl,D,W⟩;obtain⟨U,c1,rfl,ε,ζ⟩:=D.form (oA E.out);rw[E.out] at D|-;have J:=zh (F.on W);have O:=zh D;have s:=F.lt;clear W D;generalize ha:cX P M x=a at*;clear ha;have z:¬P=0:=om
 go_wp2;go_loopw [6] (fun i wr=>∃k:Nat,k<=N/\i=(k:aV)/\Hid (OI w0 wr (.slice U N c1) (bZ N (fun i=>(P-a i 0)%P) (fun i=>a i 0) k))/\Hid (dM w wr P M mv)) (fun i _=>(N-intOf i).toNat)
 .exact⟨0,aZ5 _,rfl,by rw[eT,rY E.out];exact O,J⟩
 .
  clear O J;obtain⟨k,hk,rfl,A,B⟩:=hrel;have c0:=B.c0;by_cases G:k<N
  .have m:=A.cell k (by rw[fA];exact G);rw[fK G] at m;have q:=A.frozen k;have l:=b.out k;have K:=zh (fQ (f:=fun i=>(P-a i 0)%P) (g:=fun i=>a i 0) G);have S:=zh (A.set k ((P-a k 0)%P));have T:=zh (B.far (g:=U) (k:=k) om (.int .i64 ((P-a k 0)%P)));generalize a k 0=I at*;obtain⟨o,p⟩:=l;have η:0<=P-I:=om;have Y:(P-I)%P= -I%P:=by simp
   rw[Y] at K S T;clear Y;go_wp2_with fail
   go_still_tail 13,kr
   change wpList _ _ _ _ _ wr.drew;go_wp2;exact⟨⟨k+1,om,rfl,by rw[<-K.out];exact S.below (aI _) zr,T.drew⟩,oI⟩
  .obtain rfl:N=k:=om;rw[eR] at A;have R:Hid (∀i,i<(aT N fun i=>(P-a i 0)%P).length->0<=(aT N fun i=>(P-a i 0)%P).getD i 0/\(aT N fun i=>(P-a i 0)%P).getD i 0<P):=fun i hi=>by rw[aW] at hi;rw[aK hi];exact⟨eN _ om,eM _ om⟩
   have L:Hid ((aT N fun i=>(P-a i 0)%P).length=N):=aW _ _;generalize (aT N fun i=>(P-a i 0)%P)=r at*;have j:=zh (A.si (oA L.out) (fun i=>by
    by_cases hi:i<r
    .have:=R.out i hi;exact I64.of_small om om
    .rw[bG om];exact I64.zero))
   have c1:=B.c1;have c2:=B.c2;go_wp2_with fail;apply(wP _ P M mv _ r j V R (L.out▸Q.out)).mono;rintro e ι⟨rfl,X⟩;have d:=zh (aC B.bel X);clear X;go_wp2;go_ret;exact⟨by rw[c.out];rfl,d.out⟩
theorem Rng.I{p:Int}(A:p<=256){c:LI}(h:Rng p c):∀k,I64 (c k 0):=fun k=>by have:=h k;exact I64.of_small om om
def bM(P M:Int)(Mq:LI)(x y:Int):Int:=bL P (pE P Mq (cX P M x) (cX P M y) M.toNat)
def sL(P M:Int)(Mq:LI):Prop:=(M=1->Mq=[])/\(M≠1->(Mq.length:Int)=M/\∀k,k<Mq.length->0<=Mq k 0/\Mq k 0<P)
theorem DS(w:Wo)(P M x y:Int)(mv:Va)(Mq:LI)(Y:SI w mv Mq)(v:aF P M≠0)(Ae:sL P M Mq):
 Calls prog 350 #[.agg #[P,M,mv],x,y] w (kV w (bM P M Mq x y)):=by
 obtain⟨Q,q,Ca,Cb,hq,_⟩:=bO v;obtain⟨N,rfl⟩:∃N:Nat,M=N:=⟨M.toNat,om⟩
 have κ:=zh v;clear v;rw[aZ8] at hq;have Ap:=zh hq;clear hq;have Cc:1<=N:=om;have Cd:N<=8:=om;obtain⟨π,Ah,rfl,Y⟩:=Y;have Cq:=Y.len;have Am:=zh Y.si;clear Y;have An:=zh Ae;clear Ae;have Ao:Hid (bM P (N:Int) Mq x y=bL P (pE P Mq (cX P N x) (cX P N y) N)):=by show _=_;unfold bM;rw[aZ8]
 have R:Hid ((cX P (N:Int) x).length=N/\(cX P (N:Int) y).length=N):=⟨jT _ _ _,jT _ _ _⟩
 have z:Hid (Rng P (cX P (N:Int) x)):=fun k=>uJ Q k;have ε:Hid (Rng P (cX P (N:Int) y)):=fun k=>uJ Q k;have Cf:¬P=0:=om;have ι:=zh (dM.mk' w P N (.slice π Mq Ah));obtain⟨L,τ⟩:=xE (2*N-1:Nat);have Bm:∀w:Wo,(Instr.makeSlice 22 (.int .i64 (2*(N:Int)-1)) (.int .i64 (2*(N:Int)-1))).run prog w=.ok (.slice w L L) (w.alloc (.cells (madeCells #[z0] L) 3)):=fun w=>by rw[show 2*(N:Int)-1=(L:Int) from om];exact dX L om w
 have Bz:L<=15:=om;have U:=zh τ;clear τ;go_enter func350,ntmps350;go_wp2_with fail;obtain⟨w0,Ag⟩:=xE (w.alloc (.cells #[P,N,.slice π Mq Ah] 24));rw[<-Ag] at ι|-;clear Ag;refine(mV _ P N x _ κ).mono ?_;rintro e w1 ⟨Da,rfl,d,W⟩;obtain⟨Bu,c1,rfl,Ck,Cl⟩:=d.form (by rw[R.out.1];omega);rw[R.out.1] at d|-;have V:=zh (ι.on W);have Ax:=V.c0;have Ay:=V.c1;have Az:=V.c2;have μ:=zh d;clear W d;go_wp2_with fail;refine(mV _ P N y _ κ).mono ?_;rintro e w2 ⟨Db,rfl,f,r⟩;obtain⟨Bv,c2,rfl,Cm,Co⟩:=f.form (by rw[R.out.2];omega);rw[R.out.2] at f|-;have G:=zh (V.on r);generalize ha:cX P (N:Int) x=a at*;generalize hb:cX P (N:Int) y=b at*;clear ha hb;have Aq:=zh ((μ.below r zr).si (by rw[R.out.1];omega) (z.I q));have Ar:=zh (f.si (by rw[R.out.2];omega) (ε.I q));clear r f Ax Ay Az V μ;have c0:=G.c0;have Aw:=G.c1;have Ba:=G.c2;go_wp2_with fail;obtain⟨C,ρ⟩:=xE w2.heap.size;have l:=zh (RI.made w2 L);have δ:=zh (aH w2 (.cells (madeCells #[z0] L) 3));rw[<-ρ] at l|-;have σ:w2<=C:=om;clear ρ Bm c0 Aw Ba;go_loopw [10] (fun i wr=>∃k:Nat,k<=N/\i=(k:aV)/\Hid (RI wr C (conv P a b N k))/\Hid (Below w2 w2 wr)) (fun i _=>(N-intOf i).toNat)
 case atStart=>exact⟨0,aZ5 _,rfl,by rw[conv,<-U.out];exact l,δ⟩
 case round=>
  clear l δ;obtain⟨i,hi,rfl,E,B⟩:=hrel;have c1:=(G.on B).c1;by_cases Bk:i<N
  .go_wp2_with fail;go_loopw [11] (fun j wr=>∃k:Nat,k<=N/\j=(k:aV)/\Hid (RI wr C (kC P a b i k (conv P a b N i)))/\Hid (Below w2 w2 wr)) (fun j _=>(N-intOf j).toNat)
   case atStart=>exact⟨0,aZ5 _,rfl,E,B⟩
   case round=>
    clear E B c1;obtain⟨j,Bj,rfl,E,B⟩:=hrel;have c1:=(G.on B).c1;by_cases Ab:j<N
    .have c0:=(G.on B).c0;have Bb:=(Aq.below B zr).at0 (k:=i) (by rw[R.out.1];exact Bk);have cb:=(Ar.below B zr).at0 (k:=j) (by rw[R.out.2];exact Ab);obtain⟨K,g⟩:=xE (a i 0);obtain⟨J,h⟩:=xE (b j 0);rw[<-g] at Bb;rw[<-h] at cb;obtain⟨t,c⟩:=xE (i+j);obtain⟨A,F⟩:=xE (kC P a b i j (conv P a b N i));rw[<-F] at E;have O:Hid (A=L):=by show _=_;rw[F,oY,mL,U.out]
     have S:=tE Q a b i j _ (tG Q a b N i) (i+j);rw[<-F] at S;have Z:kC P a b i (j+1) (conv P a b N i)=A.set t ((A t 0+K*J)%P):=by rw[kC,tF,<-F,<-g,<-h,<-c]
     have χ:=z.out i;rw[<-g] at χ;have W:=ε.out j;rw[<-h] at W;have Aa:i+j<L:=by have:=U.out;omega
     rw[<-c] at S Aa;have Bp:IntKind.i64.wrap ((i:Int)+(j:Int))=(t:Int):=by rw[IntWalk.i64_in _ om];omega
     have m:=zh Z;have Bc:=E.cell t (by rw[O.out];exact Aa);have Bd:=E.frozen t;have o:=zh (E.set t ((A t 0+K*J)%P));generalize A t 0=Bq at*;clear F Z g h;have As:=zh c;clear c;obtain⟨Bi,Ci⟩:=χ;obtain⟨ψ,Cj⟩:=W;obtain⟨Ct,Af⟩:=S;have s:0<=K*J:=Int.mul_nonneg Bi ψ;have Bl:K*J<=256*256:=Int.mul_le_mul om om ψ om;go_wp2_with fail
     go_still_tail 24,kr
     change wpList _ _ _ _ _ wr.drew;go_wp2_with fail;exact⟨⟨j+1,om,rfl,by rw[m.out];exact o.drew,(B.setCell σ _).drew⟩,oI⟩
    .obtain rfl:N=j:=om;go_wp2_with fail;exact⟨⟨i+1,om,rfl,E,B⟩,oI⟩
  .obtain rfl:N=i:=om;go_wp2_with fail;obtain⟨H,X⟩:=xE (conv P a b N N);rw[<-X] at E;have η:Hid (H=L):=by show _=_;rw[X,mL,U.out]
   have θ:Hid (Rng P H):=by rw[X];exact tG Q a b N N
   have Aj:=zh X;clear X c1;go_loopw [12] (fun i wr=>∃t I:Nat,t<=N-1/\I=2*N-2-t/\i=(I:aV)/\Hid (RI wr C (lK P Mq N H t))/\Hid (Below w2 w2 wr)) (fun i _=>(intOf i).toNat)
   case atStart=>exact⟨0,2*N-2,aZ5 _,rfl,by congr 1;omega,E,B⟩
   case round=>
    clear E B;obtain⟨t,I,c,hI,rfl,E,B⟩:=hrel;have c1:=(G.on B).c1;by_cases Cp:t<N-1
    .have Ce:N<=I:=om;have Bw:I<=14:=om;have Bf:I<L:=by have:=U.out;omega
     have Al:=zh hI;clear hI;go_wp2_with fail;go_loopw [13] (fun j wr=>∃k:Nat,k<=N/\j=(k:aV)/\Hid (RI wr C (kL P Mq N I k (lK P Mq N H t)))/\Hid (Below w2 w2 wr)) (fun j _=>(N-intOf j).toNat)
     case atStart=>exact⟨0,aZ5 _,rfl,E,B⟩
     case round=>
      clear E B c1;obtain⟨j,Bj,rfl,E,B⟩:=hrel;have c1:=(G.on B).c1;by_cases Ab:j<N
      .have c0:=(G.on B).c0;have c2:=(G.on B).c2;have u:=An.2 om;have Ad:j<Mq:=by have:=u.1;omega
       have Ac:=u.2 j Ad;obtain⟨Cz,J,rfl,Bt,_,ν⟩:=(Am.below (aC G.bel B) zr).elt (k:=j) Ad;rw[ν.out] at Ac;obtain⟨s,Bl⟩:=Ac;obtain⟨A,F⟩:=xE (kL P Mq N I j (lK P Mq N H t));rw[<-F] at E;have O:Hid (A=L):=by show _=_;rw[F,rW,mB,η.out]
       have S:=wQ Q Mq N I j _ (qT Q Mq N H θ.out t);rw[<-F] at S;obtain⟨D,p⟩:=xE (I-N);obtain⟨T,hT⟩:=xE (D+j);have Bh:T<L:=by have:=U.out;omega
       have Bp:IntKind.i64.wrap ((I:Int)-(N:Int))=(D:Int):=by rw[IntWalk.i64_in _ om];omega
       have Cy:IntKind.i64.wrap ((D:Int)+(j:Int))=(T:Int):=by rw[IntWalk.i64_in _ om];omega
       have Z:kL P Mq N I (j+1) (lK P Mq N H t)=A.set T ((A T 0+(P-A I 0)*J)%P):=by rw[kL,uR,<-F,ν.out,<-p,<-hT]
       have m:=zh Z;have Bc:=E.cell T (by rw[O.out];exact Bh);have Bs:=E.cell I (by rw[O.out];exact Bf);have Bd:=E.frozen T;have o:=zh (E.set T ((A T 0+(P-A I 0)*J)%P));have Bn:=S T;have Af:=S I;generalize A T 0=Bq at*;generalize A I 0=K at*;clear F Z S u;have As:=zh hT;have Br:=zh p;clear hT p;obtain⟨Cw,Cx⟩:=Bn;obtain⟨Cu,Cv⟩:=Af;have Bo:0<=P-K:=om;have Cr:0<=(P-K)*J:=Int.mul_nonneg Bo s;have Cs:(P-K)*J<=256*256:=Int.mul_le_mul om om s om;go_wp2_with fail
       go_still_tail 34,kr
       change wpList _ _ _ _ _ wr.drew;go_wp2_with fail;exact⟨⟨j+1,om,rfl,by rw[m.out];exact o.drew,(B.setCell σ _).drew⟩,oI⟩
      .obtain rfl:N=j:=om;go_wp2_with fail;have Be:=Al.out;exact⟨⟨t+1,I-1,om,om,by congr 1;omega,by rw[lK,<-Be];exact E,B⟩,oI⟩
    .have φ:t=N-1:=om;have Bx:¬N<=I:=om;have At:=zh φ;clear φ hI;have c0:=(G.on B).c0;have c2:=(G.on B).c2;have Bg:N<=L:=by have:=U.out;omega
     obtain⟨A,F⟩:=xE (lK P Mq N H t);rw[<-F] at E;have O:Hid (A=L):=by show _=_;rw[F,mB,η.out]
     have ζ:Hid (Rng P A):=by rw[F];exact qT Q Mq N H θ.out t
     have Ak:Hid (pE P Mq a b N=A.take N):=by show _=_;unfold pE;rw[<-Aj.out,<-At.out,<-F]
     clear F;have ξ:Hid ((A.take N).length=N):=by show _=_;rw[aY3,O.out];omega
     have Au:Hid (∀i,i<(A.take N).length->0<=(A.take N).getD i 0/\(A.take N).getD i 0<P):=fun i hi=>by rw[ξ.out] at hi;have:=ζ.out i;rw[show(A.take N).getD i 0=A i 0 by simp[List.getD,List.getElem?_take,hi]];exact this
     have Av:Hid (SI wr.drew (.slice C N L) (A.take N)):=by have:=E.siTake (n:=N) (by rw[O.out];exact Bg) (by rw[O.out];omega) (ζ.I q);rw[O.out] at this;exact this.below (aI _) zr
     go_wp2_with fail
     go_still_tail 5,kr
     change wpList _ _ _ _ _ wr.drew;go_wp2_with fail;refine(wP _ P N _ _ (A.take N) Av Q Au (by rw[ξ.out];exact Ap.out)).mono ?_;rintro e Dc ⟨rfl,ω⟩;have Ai:=zh (aC (aC (aC G.bel B) (aI _)) ω);clear ω;go_wp2_with fail;go_ret;exact⟨by rw[Ao.out,Ak.out];rfl,Ai.out⟩
def eX(P M:Int)(Mq:LI)(x:Int):Nat->Int
 |0=>0
 |k+1=>if eX P M Mq x k≠0 then eX P M Mq x k else if k≠0/\bM P M Mq x k=1 then k else 0
def lY(P M:Int)(Mq:LI)(x:Int):Int:=eX P M Mq x (aF P M).toNat
theorem CW{P M:Int}{Mq:LI}{x:Int}{k:Nat}(h:eX P M Mq x k≠0):∀n,k<=n->eX P M Mq x n=eX P M Mq x k
 | 0, hn => by obtain rfl : k = 0 := by omega
               rfl
 |n+1,hn=>by
   by_cases e:k=n+1
   . rw[e]
   . have A:=CW h n om;rw[eX,iP (by rw[A];exact h),A]
theorem YH(w:Wo)(P M x:Int)(mv:Va)(Mq:LI)(N:SI w mv Mq)(F:aF P M≠0)(O:sL P M Mq):
 Calls prog 264 #[.agg #[P,M,mv],x] w (kV w (lY P M Mq x)):=by
 have R:=zh N;clear N;have S:=zh O;clear O;have W:=aM P M;obtain⟨q,hq⟩:∃q:Nat,aF P M=(q:Int):=⟨(aF P M).toNat,om⟩
 have X:1<=q:=by rcases Nat.eq_zero_or_pos q with h|h;exact aB (by rw[hq,h];rfl) F;exact h
 have a:q<=256:=om;have I:Hid (lY P M Mq x=eX P M Mq x q):=by show _=_;unfold lY;rw[hq];rfl
 have T:=zh F;clear F W;have U:=zh hq;clear hq;have G:=zh (dM.mk' w P M mv);go_enter func264,ntmps264;go_wp2_with fail;obtain⟨w0,Q⟩:=xE (w.alloc (.cells #[P,M,mv] 24));rw[<-Q] at G|-;clear Q;go_loopw [5] (fun i wr=>∃k:Nat,1<=k/\k<=q/\i=(k:aV)/\Hid (eX P M Mq x k=0)/\Hid (dM w wr P M mv)) (fun i _=>(q-intOf i).toNat)
 .exact⟨1,zr,X,rfl,by show _=_;rw[eX,eX,iN dC,iN sM],G⟩
 .
  obtain⟨k,Y,hk,rfl,E,C⟩:=hrel;have c0:=C.c0;have c1:=C.c1;have c2:=C.c2;go_wp2_with fail;apply(jH _ P M mv).mono;rintro e w1⟨rfl,K⟩;rw[U.out];have A:=zh (C.on K);clear c0 c1 c2 K;have c0:=A.c0;have c1:=A.c1;have c2:=A.c2;by_cases Z:k<q
  .go_wp2_with fail;apply(DS _ P M x _ mv Mq (R.below A.bel zr) T S).mono;rintro e w2⟨rfl,L⟩;have H:=zh (A.on L);clear L;by_cases B:bM P M Mq x k=1
   .have D:Hid (eX P M Mq x q=k):=by
     have J:eX P M Mq x (k+1)=k:=by rw[eX,iN (by rw[E.out];simp),iP ⟨om,B⟩]
     show _=_;rw[CW (k:=k+1) (by rw[J];omega) q om,J]
    have V:(bM P M Mq x k==1)=true:=by rw[eD];exact B
    clear B;generalize bM P M Mq x k=z at*;go_wp2;go_ret;exact⟨by rw[I.out,D.out];rfl,H.bel⟩
   .have V:(bM P M Mq x k==1)=false:=by rw[eA];exact B
    have D:Hid (eX P M Mq x (k+1)=0):=by show _=_;rw[eX,iN (by rw[E.out];simp),iN (fun h=>B h.2)]
    clear B;generalize bM P M Mq x k=z at*;go_wp2;exact⟨⟨k+1,om,om,rfl,D,H⟩,oI⟩
  .obtain rfl:q=k:=om
   go_wp2;go_ret;exact⟨by rw[I.out,E.out];rfl,A.bel⟩
theorem D1(w:Wo)(n:Int)(C:2<=n)(hn:n<=256):Calls prog 84 #[n] w fun e w'=>e=.returned (.bool (lI n))/\w=w':=by
 go_enter func84,ntmps84
 go_wp2
 go_loop [3] (fun d=>∃k:Int,2<=k/\k<=n/\d=(k:aV)/\Hid (∀e:Int,2<=e->e<k->n%e≠0)) (fun d=>(n-intOf d).toNat)
 .exact⟨2,om,om,rfl,aG fun e F C=>om⟩
 .
  obtain⟨k,H,M,rfl,D⟩:=hrel;have L:¬k=0:=om;by_cases I:k<n
  .by_cases A:n%k=0
   .have B:Hid (lI n=false):=nM fun J=>J.2 k H I A;have K:(n%k==0)=true:=by simp[A]
    have E:=zh A;clear A
    go_wp2
    go_ret;exact⟨by rw[B.out];rfl,rfl⟩
   .have K:(n%k==0)=false:=by simp[A]
    have E:=zh A;clear A
    go_wp2
    go_round
    .exact⟨k+1,om,om,rfl,aG fun e F C=>by
     by_cases G:e=k
     .subst G;exact E.out
     .exact D.out e F om⟩
    .simp[intOf];omega
  .obtain rfl:n=k:=om;have B:Hid (lI n=true):=pK ⟨C,D.out⟩
   go_wp2
   go_ret;exact⟨by rw[B.out];rfl,rfl⟩
theorem IR(w:Wo)(Af Ag:Va)(low mod:LI)(p:Int)(Y:SI w Af low)(Z:SI w Ag mod)(Ac:2<=p)(Bu:p<=256)(At:1<=low.length)(φ:low.length<=mod.length)(Av:mod.length<=8)(χ:Rng p low)(Ab:Rng p mod):
 Calls prog 141 #[Af,Ag,p] w (nX w (gM p low mod)):=by
 obtain⟨d,s⟩:=xE low.length;obtain⟨n,hn⟩:=xE mod.length;obtain⟨Bd,Ce,rfl,Y⟩:=Y;obtain⟨Be,Cf,rfl,Z⟩:=Z;have η:=zh Y.si;have θ:=zh Z.si;clear Y Z;rw[<-s] at η At φ|-;rw[<-hn] at θ φ Av|-;have U:=zh s;have O:=zh hn;clear s hn;have Ah:=zh χ;have Ai:=zh Ab;clear χ Ab;have Bt:¬p=0:=om;go_enter func141,ntmps141;have g:=zh (OI.empty (B:=w.heap.size) w zr);have ι:=zh (θ.below (aH w (.cells #[] 3)) zr);have ξ:Hid (([]:LI).length+mod.length<=17592186044416):=by show _<=_;rw[<-O.out];simp;omega
 have X:Hid (([]++mod:LI).length=n):=by show _=_;rw[List.nil_append,O.out]
 obtain⟨L,o⟩:=xE (n+1);have π:Hid (([]++mod++[1]:LI).length=L):=by show _=_;rw[o,List.nil_append,aZ1,<-O.out];rfl
 have Bm:1<=L:=om;have Bn:L<=9:=om;have M:=zh o;clear o;have h:Hid (w.heap.size<=(w.alloc (.cells #[] 3)).heap.size):=by show _<=_;simp
 have z:=zh (aH w (.cells #[] 3))
 go_wp2_with (first
  |(at_builtin;refine kT rfl _ _ rfl w _ _ rfl g _ mod rfl ι ξ h ?_;(intro Ci w1 C R Ay);go_must (have b:=zh (g.bgrown z h R);obtain⟨G,Bg,rfl,Bh,Bi⟩:=C.form (oA X.out);rw[X.out] at C|-;have P:=zh (EY.mk' (w0:=w) C b b.size 1);clear C R Ay))
  |(at_builtin;refine sH rfl _ _ rfl w _ ([]++mod) rfl P.own w1 1 1 rfl P.box (oA X.out) P.up ?_;(intro Cj w2 C R);go_must (have δ:=zh (P.below zr R);obtain⟨y,σ,rfl,τ,Bj⟩:=C.form sM;rw[π.out] at C|-;have V:=zh C;clear C R)))
 rw[List.nil_append] at V;obtain⟨E,S⟩:=xE (mod++[1]);rw[<-S] at V;have μ:Hid (E.length=n+1):=by show _=_;rw[S,aZ1,<-O.out];rfl
 have Al:Hid (Rng p E):=by
  rw[S];intro k;by_cases hk:k<mod
  .have e:(mod++[(1:Int)]).getD k 0=mod k 0:=by simp[List.getD,aY2 hk]
   rw[e];exact Ai.out k
  .by_cases As:k=mod
   .subst As;have e:(mod++[(1:Int)]).getD mod 0=1:=by simp[List.getD]
    rw[e];omega
   .rw[bG (by rw[aZ1,aZ2];omega)];omega
 have c:Hid (gM p low mod=(gV p low E (n+1-d)).all (·==0)):=by show _=_;unfold gM;rw[<-S,<-O.out,<-U.out]
 clear S;clear ξ X h π g ι P z b;go_loopw [9] (fun i wr=>∃t I:Nat,t<=n+1-d/\I+t=n/\i=(I:aV)/\Hid (OI w wr (.slice y L σ) (gV p low E t))/\Hid (Below w w wr)) (fun i _=>(intOf i).toNat)
 .exact⟨0,n,aZ5 _,rfl,by have:=M.out;congr 1;omega,V,δ⟩
 .
  clear V δ;obtain⟨t,I,Ca,hI,rfl,A,F⟩:=hrel;obtain⟨r,K⟩:=xE (gV p low E t);rw[<-K] at A;have Q:Hid (r.length=n+1):=by show _=_;rw[K,qF,μ.out]
  have Bl:I<L:=by have:=M.out;omega
  have ν:Hid (Rng p r):=by rw[K];exact zF Ac low E Al.out t
  by_cases Bp:d<=I
  .have ρ:=A.cell I (oA Q.out);obtain⟨q,hq⟩:=xE (r I 0);rw[<-hq] at ρ;have Aj:Hid (gV p low E (t+1)=(iM p low q I d r).set I 0):=by show _=_;rw[gV,μ.out,show n+1-1-t=I from om,<-K,<-hq,U.out]
   have Ad:=ν.out I;rw[<-hq] at Ad;obtain⟨Bv,Bw⟩:=Ad;have Bk:I<=8:=om;have Ap:I<n+1:=om;clear K hq;go_wp2_with fail;clear ρ;go_loopw [11] (fun j wr=>∃k:Nat,k<=d/\j=(k:aV)/\Hid (OI w wr (.slice y L σ) (iM p low q I k r))/\Hid (Below w w wr)) (fun j _=>(d-intOf j).toNat)
   .exact⟨0,aZ5 _,rfl,A,F⟩
   .
    clear A F;obtain⟨j,u,rfl,A,F⟩:=hrel;obtain⟨H,J⟩:=xE (iM p low q I j r);rw[<-J] at A;have ε:Hid (H.length=n+1):=by show _=_;rw[J,oF,Q.out]
    by_cases Au:j<d
    .obtain⟨Cd,a,rfl,Bf,_,κ⟩:=(η.below F zr).elt (k:=j) (U.out▸Au);have Aa:=Ah.out j;rw[κ.out] at Aa;obtain⟨ω,Bq⟩:=Aa;have v:=vX Ac low q I j r ν.out;rw[<-J] at v;obtain⟨D,m⟩:=xE (I-d);obtain⟨T,hT⟩:=xE (D+j);have Aq:T<n+1:=om;have Bo:T<L:=by have:=M.out;omega
     have Cb:IntKind.i64.wrap ((I:Int)-(d:Int))=(D:Int):=by rw[IntWalk.i64_in _ om];omega
     have Cc:IntKind.i64.wrap ((D:Int)+(j:Int))=(T:Int):=by rw[IntWalk.i64_in _ om];omega
     have Ae:iM p low q I (j+1) r=H.set T ((H T 0+(p-q)*a)%p):=by rw[iM,<-J,κ.out,<-U.out,<-m,<-hT]
     have Am:=zh Ae;have l:=A.cell T (ε.out▸Aq);have Ao:=A.frozen T;have W:=zh (A.set T ((H T 0+(p-q)*a)%p));have Aw:=v T;generalize H T 0=Ba at*;clear J Ae v;have Bc:=zh hT;have Bb:=zh m;clear hT m;obtain⟨Bx,Bz⟩:=Aw;have Ax:0<=p-q:=om;have Br:0<=(p-q)*a:=Int.mul_nonneg Ax ω;have Bs:(p-q)*a<=256*256:=Int.mul_le_mul om om ω om;go_wp2_with fail
     go_still_tail 26,kr
     change wpList _ _ _ _ _ wr.drew;go_wp2;exact⟨⟨j+1,om,rfl,by rw[Am.out];exact W.below (aI _) zr,(F.setCell τ _).drew⟩,oI⟩
    .obtain rfl:d=j:=om;have l:=A.cell I (ε.out▸Ap);have Ao:=A.frozen I;have W:=zh (A.set I 0);rw[J] at W;generalize H I 0=Ba at*;clear J;go_wp2;exact⟨⟨t+1,I-1,om,om,by congr 1;omega,Aj.out▸W,F.setCell τ _⟩,oI⟩
  .obtain rfl:t=n+1-d:=om;rw[<-K] at c;clear K;go_wp2;go_loop [12] (fun i=>∃k:Nat,k<=L/\i=(k:aV)/\Hid (∀j,j<k->r j 0=0)) (fun i=>(L-intOf i).toNat)
   .exact⟨0,aZ5 _,rfl,aG fun j u=>aB u om⟩
   .
    obtain⟨k,hk,rfl,ζ⟩:=hrel;by_cases ψ:k<L
    .have l:=A.cell k (by rw[Q.out,<-M.out];exact ψ);obtain⟨q,hq⟩:=xE (r k 0);rw[<-hq] at l;by_cases N:q=0
     .have Ar:(q !=0)=false:=by simp[N]
      have Ak:=zh hq;have An:=zh N;clear hq N;go_wp2;exact⟨⟨k+1,om,rfl,aG fun j u=>by
       by_cases e:j=k
       .subst e;rw[<-Ak.out];exact An.out
       .exact ζ.out j om⟩,oI⟩
     .have Ar:(q !=0)=true:=by simp[N]
      have f:Hid (gM p low mod=false):=by show _=_;rw[c.out,List.all_eq_false];exact⟨q,by rw[hq];exact J2 k (by rw[Q.out,<-M.out];exact ψ),by simp[N]⟩
      clear hq N;go_wp2;go_ret;exact⟨by rw[f.out];rfl,F.out⟩
    .have f:Hid (gM p low mod=true):=by
      show _=_;rw[c.out,List.all_eq_true];intro x Az;obtain⟨i,hi,rfl⟩:=eI.1 Az;have:=ζ.out i (by rw[Q.out,<-M.out] at hi;omega);simp[List.getD,hi] at this;simp[this]
     go_wp2;go_ret;exact⟨by rw[f.out];rfl,F.out⟩
theorem YB{p:Int}(A:2<=p){n e:Nat}(hq:p^n<=256)(D:2*(e+1)<=n):2<=p^(e+1)/\p^(e+1)<=256:=by have C:=dU A (show e+1<=n from om);have B:=dU A (show 1<=e+1 from om);rw[Int.pow_one] at B;omega
theorem YN(w:Wo)(f:Va)(mod:LI)(p:Int)(H:SI w f mod)(E:2<=p)(y:p<=256)(X:mod.length<=8)(hq:p^mod.length<=256)(Y:Rng p mod):
 Calls prog 85 #[f,p] w (nX w (xZ p mod)):=by
 obtain⟨n,hn⟩:=xE mod.length;obtain⟨ε,μ,rfl,H⟩:=H;have P:=zh H.si;clear H;rw[<-hn] at P X hq|-;have I:=zh hn;clear hn;have g:=zh Y;clear Y;have h:=zh hq;clear hq;have O:Hid (xZ p mod=sJ p mod (n/2)):=by show _=_;unfold xZ;rw[<-I.out]
 go_enter func85,ntmps85;go_wp2;go_loopw [5,6] (fun c d wr=>∃(e D:Nat) (z:Int),e<=n/2/\D=e+1/\c=(z:aV)/\d=(D:aV)/\Hid (z=p^e)/\Hid (sJ p mod e=true)/\Hid (Below w w wr)) (fun _ d _=>(n+1-intOf d).toNat)
 .exact⟨0,1,1,aZ5 _,rfl,rfl,rfl,by show _=_;rw[Int.pow_zero],rfl,bE _⟩
 .
  obtain⟨e,D,z,θ,T,rfl,rfl,S,N,B⟩:=hrel;by_cases r:2*D<=n
  .have Z:=YB (e:=e) E h.out om;have b:z*p=p^(e+1):=by rw[S.out,Int.pow_succ]
   obtain⟨V,G⟩:∃V:Nat,p^(e+1)=(V:Int):=⟨(p^(e+1)).toNat,om⟩
   rw[G] at b Z;have R:Hid ((p^(e+1)).toNat=V):=by rw[G];rfl
   have l:=zh G;clear G;obtain⟨ι,κ⟩:=Z;have s:2*(D:Int)<=(n:Int):=om;have δ:0<=z:=by rw[S.out];have:=jA E e;omega
   have C:=zh T;clear T;have o:1<=D:=by have:=C.out;omega
   have q:D<=n:=om;go_wp2_with fail;clear b δ;go_loopw [7] (fun v wr=>∃k:Nat,k<=V/\v=(k:aV)/\Hid (oP p mod D k=true)/\Hid (Below w w wr)) (fun v _=>(V-intOf v).toNat)
   .exact⟨0,aZ5 _,rfl,rfl,B⟩
   .
    clear B;obtain⟨k,hk,rfl,Q,B⟩:=hrel;by_cases t:k<V
    .go_wp2_with fail;apply(AT _ _ _ _ om om E om om om).mono;rintro ζ w1⟨u,rfl,K,U⟩;rw[show((D:Int)).toNat=D from aZ8 D] at K;have a:=K.si (by rw[eP];omega) (fun i=>by have:=iI (x:=(k:Int)) (m:=D) E i;exact I64.of_small om om);have j:=zh a;clear a K;have L:=zh (aC B U);clear U;go_wp2_with fail;refine(IR _ _ _ (bU k p D) mod p j (P.below L zr) E y (by rw[eP];exact o) (by rw[eP,<-I.out];exact q) (I.out▸X) (fun i=>iI E i) g).mono ?_;rintro η w2⟨rfl,W⟩;have M:=zh (aC L W);clear W;by_cases F:gM p (bU k p D) mod=true
     .have A:Hid (xZ p mod=false):=by
       show _=_;rw[O.out];exact AN (d:=e) (oA C.out) (by rw[R.out,<-C.out];exact yO t F)
      rw[F];clear F;go_wp2;go_ret;exact⟨by rw[A.out];rfl,M.out⟩
     .have J:gM p (bU k p D) mod=false:=by simpa using F
      have A:Hid (oP p mod D (k+1)=true):=by show _=_;rw[KQ,Q.out,J];rfl
      rw[J];clear F J;go_wp2;exact⟨⟨k+1,om,rfl,A,M⟩,oI⟩
    .obtain rfl:V=k:=om;have A:Hid (sJ p mod (e+1)=true):=by show _=_;rw[MX,N.out,R.out,<-C.out,Q.out];rfl
     go_wp2;exact⟨⟨e+1,D+1,_,oA C.out,oA C.out,rfl,rfl,l.symm,A,B⟩,oI⟩
  .have A:Hid (xZ p mod=true):=by
    show _=_;rw[O.out,show n/2=e from om,N.out]
   have s:(n:Int)<2*(D:Int):=om;clear r;go_wp2;go_ret;exact⟨by rw[A.out];rfl,B.out⟩
def cZ(P M:Int)(Mq:LI):Prop:=aF P M≠0/\nD P/\sL P M Mq/\(M≠1->xZ P Mq=true)
noncomputable def dI(P M:Int)(Mq:LI):Int:= @ite _ (cZ P M Mq) (Classical.propDecidable _) 0 1
theorem nQ{P M:Int}{Mq:LI}(h:cZ P M Mq):dI P M Mq=0:=by unfold dI;rw[iP h]
theorem fO{P M:Int}{Mq:LI}(h:¬cZ P M Mq):dI P M Mq=1:=by unfold dI;rw[iN h]
theorem mA(w:Wo)(P M:Int)(mv:Va)(Mq:LI)(N:SI w mv Mq):
 Calls prog 40 #[.agg #[P,M,mv]] w (kV w (dI P M Mq)):=by
 obtain⟨d,m,rfl,N⟩:=N;have hn:=N.len;have a:=zh N.si;clear N;have X:=zh (dM.mk' w P M (.slice d Mq m));by_cases G:aF P M=0
 .have A:Hid (dI P M Mq=1):=fO fun h=>h.1 G;have O:=zh G;clear G;go_enter func40,ntmps40;go_wp2_with fail;refine(jH _ P M _).mono ?_;rintro e w1 ⟨rfl,F⟩;rw[O.out];have p:=zh (aC (aH _ _) F);clear F;go_wp2_with fail;go_ret;exact⟨by rw[A.out];rfl,p.out⟩
 obtain⟨U,V,ε,ζ,hq,v⟩:=bO G;clear v;have μ:(aF P M==0)=false:=by rw[eA];exact G
 have O:=zh G;clear G;generalize hoo:aF P M=o at*;have Q:=zh hoo;clear hoo;by_cases K:nD P
 case neg=>have A:Hid (dI P M Mq=1):=fO fun h=>K h.2.1;have S:Hid (lI P=false):=nM K;clear K hq;go_enter func40,ntmps40;go_wp2_with fail;refine(jH _ P M _).mono ?_;rintro e w1 ⟨rfl,F⟩;rw[Q.out];have C:=zh (X.on F);clear F;have c0:=C.c0;go_wp2_with fail;refine(D1 _ P U V).mono ?_;rintro e w2 ⟨rfl,rfl⟩;rw[S.out];go_wp2_with fail;go_ret;exact⟨by rw[A.out];rfl,C.bel⟩
 have c:=zh K;have S:Hid (lI P=true):=pK K;clear K;go_enter func40,ntmps40;go_wp2_with fail;refine(jH _ P M _).mono ?_;rintro e w1 ⟨rfl,F⟩;rw[Q.out];have C:=zh (X.on F);clear F;have c0:=C.c0;have c1:=C.c1;have c2:=C.c2;go_wp2_with fail;refine(D1 _ P U V).mono ?_;rintro e w2 ⟨rfl,rfl⟩;rw[S.out];by_cases E:M=1
 .have u:(M==1)=true:=by rw[eD];exact E
  by_cases B:Mq.length=0
  .have R:(((Mq.length:Nat):Int) !=0)=false:=by simp;exact eH B
   have A:Hid (dI P M Mq=0):=nQ ⟨Q.out▸O.out,c.out,⟨fun _=>eH B,fun h=>aB E h⟩,fun h=>aB E h⟩;clear E B hq;go_wp2_with fail;go_ret;exact⟨by rw[A.out];rfl,C.bel⟩
  .have R:(((Mq.length:Nat):Int) !=0)=true:=by rw[eC];omega
   have A:Hid (dI P M Mq=1):=fO fun h=>B (by rw[h.2.2.1.1 E];rfl);clear E B hq;go_wp2_with fail;go_ret;exact⟨by rw[A.out];rfl,C.bel⟩
 have u:(M==1)=false:=by rw[eA];exact E
 have I:=zh E;clear E;by_cases B:(Mq.length:Int)=M
 case neg=>
  have R:(((Mq.length:Nat):Int) !=M)=true:=by rw[eC];exact B
  have A:Hid (dI P M Mq=1):=fO fun h=>B (h.2.2.1.2 I).1;clear B hq;go_wp2_with fail;go_ret;exact⟨by rw[A.out];rfl,C.bel⟩
 have R:(((Mq.length:Nat):Int) !=M)=false:=by rw[eB];exact B
 have H:=zh B;clear B;have r:=zh hq;clear hq;go_wp2_with fail;obtain⟨n,ν⟩:=xE w1;clear R;go_loopw [3] (fun i wr=>∃k:Nat,k<=Mq/\i=(k:aV)/\Hid (∀j,j<k->0<=Mq j 0/\Mq j 0<P)/\Hid (dM w wr P M (.slice d Mq m))) (fun i _=>(M-intOf i).toNat)
 case atStart=>exact⟨0,aZ5 _,rfl,aG fun j L=>aB L om,C⟩
 case round=>
  clear c0 c1 c2;obtain⟨k,hk,rfl,Z,D⟩:=hrel;have c0:=D.c0;have c1:=D.c1;have c2:=D.c2;by_cases W:k<Mq
  .obtain⟨z,x,rfl,η,_,T⟩:=(a.below D.bel zr).elt W;have κ:(k:Int)<M:=by have:=H.out;omega
   by_cases y:x<0
   .have A : Hid (dI P M Mq = 1) := fO fun h => by
     have:=((h.2.2.1.2 I).2 k W).1;rw[T.out] at this;omega
    have t:decide (x<0)=true:=by simp[y]
    go_wp2_with fail
    go_quiet (fail)
    go_wp2_with fail;go_ret;exact⟨by rw[A.out];rfl,(D.drewN _).bel⟩
   .have t:decide (x<0)=false:=by simp;omega
    by_cases ξ:P<=x
    .have A : Hid (dI P M Mq = 1) := fO fun h => by
      have:=((h.2.2.1.2 I).2 k W).2;rw[T.out] at this;omega
     go_wp2_with fail
     go_quiet (fail)
     go_wp2_with fail;go_ret;exact⟨by rw[A.out];rfl,(D.drewN _).bel⟩
    .have δ:decide (P<=x)=false:=by simp;omega
     go_wp2_with fail
     go_quiet (fail)
     go_wp2_with fail;exact⟨⟨k+1,om,rfl,aG fun j L=>by
      by_cases e:j=k
      .subst e;rw[T.out];omega
      .exact Z.out j om,D.drewN _⟩,oI⟩
  .have l:(k:Int)=M:=by have:=H.out;omega
   have θ:M<=(k:Int):=om;have q:=zh l;clear l;have b:Hid (sL P M Mq):=⟨fun h=>aB h I,fun _=>⟨H.out,fun j L=>Z.out j (oB H.out q.out)⟩⟩
   have s:Hid (Rng P Mq):=fun j=>by
    by_cases L:j<Mq
    .exact(b.2 I).2 j L
    .rw[bG om];omega
   have ι:¬(k:Int)<M:=om;go_wp2_with fail;refine(YN _ _ Mq P (a.below D.bel zr) U V (oA H.out) (by have:=r.out;rwa[show M.toNat=Mq.length by have:=H.out;omega] at this) s).mono ?_;rintro e π ⟨rfl,f⟩;have Y:=zh (D.on f);clear f;by_cases J:xZ P Mq=true
   .have A:Hid (dI P M Mq=0):=nQ ⟨Q.out▸O.out,c.out,b.out,fun _=>J⟩;rw[J];clear J;go_wp2_with fail;go_ret;exact⟨by rw[A.out];rfl,Y.bel⟩
   .have g:xZ P Mq=false:=by simpa using J
    have A:Hid (dI P M Mq=1):=fO fun h=>J (h.2.2.2 I);rw[g];clear J g;go_wp2_with fail;go_ret;exact⟨by rw[A.out];rfl,Y.bel⟩
section
variable {P:Program} {ops:Array Oper} {Q:Exit->Act->Wo->Prop} {S:Wo->Prop}
theorem bY.fam{J:Nat->Array Bool->Act->Wo->Prop}
 (B:∀n L a w,J n L a w->bY P ops Q S n L a w\/∃m,n=m+1/\Region.ready .any ops L≠[]/\∀i∈Region.ready .any ops L,wpOp P ops Q i (fun b v=>S v/\J m (L.setIfInBounds i true) b v) a w):
 ∀n L a w,J n L a w->bY P ops Q S n L a w
 |0,L,a,w,h=>by
  rcases B 0 L a w h with A|⟨m,e,_⟩
  .exact A
  .omega
 |n+1,L,a,w,h=>by
  rcases B (n+1) L a w h with A|⟨m,e,E,A⟩
  .exact A
  .obtain rfl:n=m:=om;exact⟨fun D=>aB D E,fun i hi=>wpOp_mono (fun b v C=>⟨C.1,bY.fam B n _ b v C.2⟩) (A i hi)⟩
theorem nA{i:Nat}{o:Oper}{K:Act->Wo->Prop}{a:Act}{w:Wo}(C:ops[i]?=some o)(B:o.guard=none)(h:∀A:Act->Wo->Prop,Hid (∀a w,K a w->A a w)->Oper.wp P o a w A Q):wpOp P ops Q i K a w:=
 wpOp_step C fun A hK=>by rw[iP (by simp[Region.wanted,B])];exact h A hK
end
