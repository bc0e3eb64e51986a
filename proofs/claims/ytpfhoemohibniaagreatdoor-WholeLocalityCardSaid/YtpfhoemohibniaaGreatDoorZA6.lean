/- Texts of a claim, merged. -/
import Derived.Test.YtpfhoemohibniaaGreatDoorZA2
set_option maxRecDepth 100000
set_option linter.unusedSimpArgs false
set_option maxHeartbeats 32000000
namespace Go.Proofs.YtpfhoemohibniaaGreatDoor
open Go.RowKit
theorem SV(w:World)(P M x:Int)(mv:Value)(H:aC P M≠0):Calls Tryz.prog 274 #[.agg #[.int .i64 P,.int .i64 M,mv],.int .i64 x] w (iJ w (fZ P M x)):=by
 obtain⟨V,δ,t,u,hq,_⟩:=bN H;have h:=zh H;clear H;have Q:=zh hq;clear hq;obtain⟨N,C⟩:∃N:Nat,N=M.toNat:=⟨_,rfl⟩
 have v:1<=N:=by omega
 have y:N<=8:=by omega
 have c:Hid (fZ P M x=bL P (aQ N fun i=>(P-(cJ P M x).getD i 0)%P)):=by rw[C];rfl
 have E:Hid ((cJ P M x).length=N):=by rw[C];exact gY _ _ _
 have b:=zh (rQ (M:=M) (x:=x) V);rw[<-C] at Q;have n:=zh C;clear C;have F:=zh (cV.mk' w P M mv);go_enter Tryz.func274,Tryz.ntmps274;go_wp2_with fail;obtain⟨w0,Z⟩:∃w0,w0=w.alloc (.cells #[.int .i64 P,.int .i64 M,mv] 24):=⟨_,rfl⟩
 rw[<-Z] at F|-;clear Z;refine(kW _ P M x mv h).mono ?_;rintro e w1 ⟨ι,rfl,D,W⟩;obtain⟨U,c1,rfl,ε,ζ⟩:=D.form (by rw[E.out];omega);rw[E.out] at D|-;have J:=zh (F.on W);have O:=zh D;have s:=F.lt;clear W D;generalize ha:cJ P M x=a at*;clear ha;have z:¬P=0:=by omega
 go_wp2_with fail;go_loopw [6] (fun i wr=>∃k:Nat,k<=N/\i=.int .i64 (k:Int)/\Hid (OI w0.heap.size wr (.slice (some ⟨U,0,none⟩) N c1) (bY N (fun i=>(P-a.getD i 0)%P) (fun i=>a.getD i 0) k))/\Hid (cV w wr P M mv)) (fun i _=>(N-intOf i).toNat)
 case atStart=>exact⟨0,aZ5 _,rfl,by rw[dA,mP E.out];exact O,J⟩
 case round=>
  clear O J;obtain⟨k,η,rfl,A,B⟩:=hrel;have c0:=B.c0;by_cases G:k<N
  .have m:=A.cell k (by rw[cU];exact G);rw[eJ G] at m;have q:=A.frozen k;have l:=b.out k;have K:=zh (dO (f:=fun i=>(P-a.getD i 0)%P) (g:=fun i=>a.getD i 0) G);have S:=zh (A.set k ((P-a.getD k 0)%P));have T:=zh (B.far (g:=U) (k:=k) (by omega) (.int .i64 ((P-a.getD k 0)%P)));generalize a.getD k 0=I at*;obtain⟨o,p⟩:=l;have θ:0<=P-I:=by omega
   have Y:(P-I)%P= -I%P:=by simp
   rw[Y] at K S T;clear Y;go_wp2_with fail
   go_still_tail 13,(by kernel_rfl)
   change wpList _ _ _ _ _ wr.drew;go_wp2_with fail;exact⟨⟨k+1,by omega,rfl,by rw[<-K.out];exact S.below (aH _) zr,T.drew⟩,by simp only[intOf];omega⟩
  .obtain rfl:N=k:=by omega
   rw[cZ] at A;have R:Hid (∀i,i<(aQ N fun i=>(P-a.getD i 0)%P).length->0<=(aQ N fun i=>(P-a.getD i 0)%P).getD i 0/\(aQ N fun i=>(P-a.getD i 0)%P).getD i 0<P):=fun i hi=>by rw[aT] at hi;rw[aS hi];exact⟨Int.emod_nonneg _ (by omega),Int.emod_lt_of_pos _ (by omega)⟩
   have L:Hid ((aQ N fun i=>(P-a.getD i 0)%P).length=N):=aT _ _;generalize (aQ N fun i=>(P-a.getD i 0)%P)=r at*;have j:=zh (A.si (by rw[L.out];omega) (fun i=>by
    by_cases hi:i<r.length
    .have:=R.out i hi;exact I64.of_small (by omega) (by omega)
    .rw[aW (by omega)];exact I64.zero))
   have c1:=B.c1;have c2:=B.c2;go_wp2_with fail;refine(tK _ P M mv _ r j V R (by rw[L.out];exact Q.out)).mono ?_;rintro e κ ⟨rfl,X⟩;have d:=zh (aA B.bel X);clear X;go_wp2_with fail;go_ret;exact⟨by rw[c.out];rfl,d.out⟩
theorem Rng.I{p:Int}(A:p<=256){c:LI}(h:Rng p c):∀k,I64 (c.getD k 0):=fun k=>by have:=h k;exact I64.of_small (by omega) (by omega)
def bO(P M:Int)(Mod:LI)(x y:Int):Int:=bL P (mY P Mod (cJ P M x) (cJ P M y) M.toNat)
def pW(P M:Int)(Mod:LI):Prop:=(M=1->Mod=[])/\(M≠1->(Mod.length:Int)=M/\∀k,k<Mod.length->0<=Mod.getD k 0/\Mod.getD k 0<P)
theorem AG(w:World)(P M x y:Int)(mv:Value)(Mod:LI)(hm:SI w mv Mod)(u:aC P M≠0)(Ac:pW P M Mod):
  Calls Tryz.prog 338 #[.agg #[.int .i64 P,.int .i64 M,mv],.int .i64 x,.int .i64 y] w (iJ w (bO P M Mod x y)):=by
 obtain⟨Q,p,Bx,By,hq,_⟩:=bN u;obtain⟨N,rfl⟩:∃N:Nat,M=N:=⟨M.toNat,by omega⟩
 have ι:=zh u;clear u;rw[aZ8] at hq;have An:=zh hq;clear hq;have Bz:1<=N:=by omega
 have Ca:N<=8:=by omega
 obtain⟨ξ,Af,rfl,hm⟩:=hm;have Cl:=hm.len;have Ak:=zh hm.si;clear hm;have Al:=zh Ac;clear Ac;have Am:Hid (bO P (N:Int) Mod x y=bL P (mY P Mod (cJ P N x) (cJ P N y) N)):=by show _=_;unfold bO;rw[aZ8]
 have R:Hid ((cJ P (N:Int) x).length=N/\(cJ P (N:Int) y).length=N):=⟨gY _ _ _,gY _ _ _⟩
 have v:Hid (Rng P (cJ P (N:Int) x)):=fun k=>rQ Q k;have δ:Hid (Rng P (cJ P (N:Int) y)):=fun k=>rQ Q k;have Cc:¬P=0:=by omega
 have θ:=zh (cV.mk' w P N (.slice ξ Mod.length Af));obtain⟨L,ρ⟩:∃L:Nat,L=2*N-1:=⟨_,rfl⟩
 have Bk:∀w:World,(Instr.makeSlice 22 (.int .i64 (2*(N:Int)-1)) (.int .i64 (2*(N:Int)-1))).run Tryz.prog w=.ok (.slice (some ⟨w.heap.size,0,none⟩) L L) (w.alloc (.cells (madeCells #[.int .i64 0] L) 3)):=fun w=>by rw[show 2*(N:Int)-1=(L:Int) by omega];exact dV L (by omega) w
 have Bw:L<=15:=by omega
 have U:=zh ρ;clear ρ;go_enter Tryz.func338,Tryz.ntmps338;go_wp2_with fail;obtain⟨w0,Ae⟩:∃w0,w0=w.alloc (.cells #[.int .i64 P,.int .i64 (N:Int),.slice ξ Mod.length Af] 24):=⟨_,rfl⟩
 rw[<-Ae] at θ|-;clear Ae;refine(kW _ P N x _ ι).mono ?_;rintro e w1 ⟨Cw,rfl,c,W⟩;obtain⟨Bs,c1,rfl,Cf,Ch⟩:=c.form (by rw[R.out.1];omega);rw[R.out.1] at c|-;have V:=zh (θ.on W);have Av:=V.c0;have Aw:=V.c1;have Ax:=V.c2;have κ:=zh c;clear W c;go_wp2_with fail;refine(kW _ P N y _ ι).mono ?_;rintro e w2 ⟨Cx,rfl,d,q⟩;obtain⟨Bt,c2,rfl,Ci,Cj⟩:=d.form (by rw[R.out.2];omega);rw[R.out.2] at d|-;have G:=zh (V.on q);generalize ha:cJ P (N:Int) x=a at*;generalize hb:cJ P (N:Int) y=b at*;clear ha hb;have Ao:=zh ((κ.below q zr).si (by rw[R.out.1];omega) (v.I p));have Ap:=zh (d.si (by rw[R.out.2];omega) (δ.I p));clear q d Av Aw Ax V κ;have c0:=G.c0;have Au:=G.c1;have Ay:=G.c2;go_wp2_with fail;obtain⟨C,hC⟩:∃C,C=w2.heap.size:=⟨_,rfl⟩
 have h:=zh (RI.made w2 L);have z:=zh (aF w2 (.cells (madeCells #[.int .i64 0] L) 3));rw[<-hC] at h|-;have π:w2.heap.size<=C:=by omega
 clear hC Bk c0 Au Ay;go_loopw [10] (fun i wr=>∃k:Nat,k<=N/\i=.int .i64 (k:Int)/\Hid (RI wr C (conv P a b N k))/\Hid (Below w2.heap.size w2 wr)) (fun i _=>(N-intOf i).toNat)
 case atStart=>exact⟨0,aZ5 _,rfl,by rw[conv,<-U.out];exact h,z⟩
 case round=>
  clear h z;obtain⟨i,hi,rfl,E,B⟩:=hrel;have c1:=(G.on B).c1;by_cases Bi:i<N
  .go_wp2_with fail;go_loopw [11] (fun j wr=>∃k:Nat,k<=N/\j=.int .i64 (k:Int)/\Hid (RI wr C (iG P a b i k (conv P a b N i)))/\Hid (Below w2.heap.size w2 wr)) (fun j _=>(N-intOf j).toNat)
   case atStart=>exact⟨0,aZ5 _,rfl,E,B⟩
   case round=>
    clear E B c1;obtain⟨j,Bh,rfl,E,B⟩:=hrel;have c1:=(G.on B).c1;by_cases ω:j<N
    .have c0:=(G.on B).c0;have Az:=(Ao.below B zr).at0 (k:=i) (by rw[R.out.1];exact Bi);have cb:=(Ap.below B zr).at0 (k:=j) (by rw[R.out.2];exact ω);obtain⟨K,f⟩:∃K,K=a.getD i 0:=⟨_,rfl⟩
     obtain⟨J,g⟩:∃J,J=b.getD j 0:=⟨_,rfl⟩
     rw[<-f] at Az;rw[<-g] at cb;obtain⟨t,Z⟩:∃t,t=i+j:=⟨_,rfl⟩
     obtain⟨A,F⟩:∃A,A=iG P a b i j (conv P a b N i):=⟨_,rfl⟩
     rw[<-F] at E;have O:Hid (A.length=L):=by show _=_;rw[F,mS,kI,U.out]
     have S:=qF Q a b i j _ (qH Q a b N i) (i+j);rw[<-F] at S;have Y:iG P a b i (j+1) (conv P a b N i)=A.set t ((A.getD t 0+K*J)%P):=by rw[iG,qG,<-F,<-f,<-g,<-Z]
     have τ:=v.out i;rw[<-f] at τ;have W:=δ.out j;rw[<-g] at W;have ψ:i+j<L:=by have:=U.out;omega
     rw[<-Z] at S ψ;have Bn:IntKind.i64.wrap ((i:Int)+(j:Int))=(t:Int):=by rw[IntWalk.i64_in _ (by omega)];omega
     have l:=zh Y;have Ba:=E.cell t (by rw[O.out];exact ψ);have Bb:=E.frozen t;have m:=zh (E.set t ((A.getD t 0+K*J)%P));generalize A.getD t 0=Bo at*;clear F Y f g;have Aq:=zh Z;clear Z;obtain⟨Bg,Cd⟩:=τ;obtain⟨φ,Ce⟩:=W;obtain⟨Cp,Ad⟩:=S;have r:0<=K*J:=Int.mul_nonneg Bg φ;have Bj:K*J<=256*256:=Int.mul_le_mul (by omega) (by omega) φ (by omega);go_wp2_with fail
     go_still_tail 24,(by kernel_rfl)
     change wpList _ _ _ _ _ wr.drew;go_wp2_with fail;exact⟨⟨j+1,by omega,rfl,by rw[l.out];exact m.drew,(B.setCell π _).drew⟩,by simp only[intOf];omega⟩
    .obtain rfl:N=j:=by omega
     go_wp2_with fail;exact⟨⟨i+1,by omega,rfl,E,B⟩,by simp only[intOf];omega⟩
  .obtain rfl:N=i:=by omega
   go_wp2_with fail;obtain⟨H,X⟩:∃H,H=conv P a b N N:=⟨_,rfl⟩
   rw[<-X] at E;have ζ:Hid (H.length=L):=by show _=_;rw[X,kI,U.out]
   have η:Hid (Rng P H):=by rw[X];exact qH Q a b N N
   have Ah:=zh X;clear X c1;go_loopw [12] (fun i wr=>∃t I:Nat,t<=N-1/\I=2*N-2-t/\i=.int .i64 (I:Int)/\Hid (RI wr C (jL P Mod N H t))/\Hid (Below w2.heap.size w2 wr)) (fun i _=>(intOf i).toNat)
   case atStart=>exact⟨0,2*N-2,aZ5 _,rfl,by congr 1;omega,E,B⟩
   case round=>
    clear E B;obtain⟨t,I,Z,hI,rfl,E,B⟩:=hrel;have c1:=(G.on B).c1;by_cases Ck:t<N-1
    .have Cb:N<=I:=by omega
     have Bu:I<=14:=by omega
     have Bd:I<L:=by have:=U.out;omega
     have Aj:=zh hI;clear hI;go_wp2_with fail;go_loopw [13] (fun j wr=>∃k:Nat,k<=N/\j=.int .i64 (k:Int)/\Hid (RI wr C (iQ P Mod N I k (jL P Mod N H t)))/\Hid (Below w2.heap.size w2 wr)) (fun j _=>(N-intOf j).toNat)
     case atStart=>exact⟨0,aZ5 _,rfl,E,B⟩
     case round=>
      clear E B c1;obtain⟨j,Bh,rfl,E,B⟩:=hrel;have c1:=(G.on B).c1;by_cases ω:j<N
      .have c0:=(G.on B).c0;have c2:=(G.on B).c2;have s:=Al.2 (by omega);have Ab:j<Mod.length:=by have:=s.1;omega
       have Aa:=s.2 j Ab;obtain⟨Cv,J,rfl,Br,_,μ⟩:=(Ak.below (aA G.bel B) zr).elt (k:=j) Ab;rw[μ.out] at Aa;obtain⟨r,Bj⟩:=Aa;obtain⟨A,F⟩:∃A,A=iQ P Mod N I j (jL P Mod N H t):=⟨_,rfl⟩
       rw[<-F] at E;have O:Hid (A.length=L):=by show _=_;rw[F,pK,jZ,ζ.out]
       have S:=tL Q Mod N I j _ (oN Q Mod N H η.out t);rw[<-F] at S;obtain⟨D,o⟩:∃D,D=I-N:=⟨_,rfl⟩
       obtain⟨T,hT⟩:∃T,T=D+j:=⟨_,rfl⟩
       have Bf:T<L:=by have:=U.out;omega
       have Bn:IntKind.i64.wrap ((I:Int)-(N:Int))=(D:Int):=by rw[IntWalk.i64_in _ (by omega)];omega
       have Cu:IntKind.i64.wrap ((D:Int)+(j:Int))=(T:Int):=by rw[IntWalk.i64_in _ (by omega)];omega
       have Y:iQ P Mod N I (j+1) (jL P Mod N H t)=A.set T ((A.getD T 0+(P-A.getD I 0)*J)%P):=by rw[iQ,rY,<-F,μ.out,<-o,<-hT]
       have l:=zh Y;have Ba:=E.cell T (by rw[O.out];exact Bf);have Bq:=E.cell I (by rw[O.out];exact Bd);have Bb:=E.frozen T;have m:=zh (E.set T ((A.getD T 0+(P-A.getD I 0)*J)%P));have Bl:=S T;have Ad:=S I;generalize A.getD T 0=Bo at*;generalize A.getD I 0=K at*;clear F Y S s;have Aq:=zh hT;have Bp:=zh o;clear hT o;obtain⟨Cs,Ct⟩:=Bl;obtain⟨Cq,Cr⟩:=Ad;have Bm:0<=P-K:=by omega
       have Cm:0<=(P-K)*J:=Int.mul_nonneg Bm r;have Co:(P-K)*J<=256*256:=Int.mul_le_mul (by omega) (by omega) r (by omega);go_wp2_with fail
       go_still_tail 34,(by kernel_rfl)
       change wpList _ _ _ _ _ wr.drew;go_wp2_with fail;exact⟨⟨j+1,by omega,rfl,by rw[l.out];exact m.drew,(B.setCell π _).drew⟩,by simp only[intOf];omega⟩
      .obtain rfl:N=j:=by omega
       go_wp2_with fail;have Bc:=Aj.out;exact⟨⟨t+1,I-1,by omega,by omega,by congr 1;omega,by rw[jL,<-Bc];exact E,B⟩,by simp only[intOf];omega⟩
    .have σ:t=N-1:=by omega
     have Bv:¬N<=I:=by omega
     have Ar:=zh σ;clear σ hI;have c0:=(G.on B).c0;have c2:=(G.on B).c2;have Be:N<=L:=by have:=U.out;omega
     obtain⟨A,F⟩:∃A,A=jL P Mod N H t:=⟨_,rfl⟩
     rw[<-F] at E;have O:Hid (A.length=L):=by show _=_;rw[F,jZ,ζ.out]
     have ε:Hid (Rng P A):=by rw[F];exact oN Q Mod N H η.out t
     have Ai:Hid (mY P Mod a b N=A.take N):=by show _=_;unfold mY;rw[<-Ah.out,<-Ar.out,<-F]
     clear F;have ν:Hid ((A.take N).length=N):=by show _=_;rw[aY3,O.out];omega
     have As:Hid (∀i,i<(A.take N).length->0<=(A.take N).getD i 0/\(A.take N).getD i 0<P):=fun i hi=>by rw[ν.out] at hi;have:=ε.out i;rw[show(A.take N).getD i 0=A.getD i 0 by simp[List.getD,List.getElem?_take,hi]];exact this
     have At:Hid (SI wr.drew (.slice (some ⟨C,0,none⟩) N L) (A.take N)):=by have:=E.siTake (n:=N) (by rw[O.out];exact Be) (by rw[O.out];omega) (ε.I p);rw[O.out] at this;exact this.below (aH _) zr
     go_wp2_with fail
     go_still_tail 5,(by kernel_rfl)
     change wpList _ _ _ _ _ wr.drew;go_wp2_with fail;refine(tK _ P N _ _ (A.take N) At Q As (by rw[ν.out];exact An.out)).mono ?_;rintro e Cy ⟨rfl,χ⟩;have Ag:=zh (aA (aA (aA G.bel B) (aH _)) χ);clear χ;go_wp2_with fail;go_ret;exact⟨by rw[Am.out,Ai.out];rfl,Ag.out⟩
def dM(P M:Int)(Mod:LI)(x:Int):Nat->Int
 |0=>0
 |k+1=>if dM P M Mod x k≠0 then dM P M Mod x k else if k≠0/\bO P M Mod x k=1 then k else 0
def fJ(P M:Int)(Mod:LI)(x:Int):Int:=dM P M Mod x (aC P M).toNat
theorem zK{P M:Int}{Mod:LI}{x:Int}{k:Nat}(h:dM P M Mod x k≠0):∀n,k<=n->dM P M Mod x n=dM P M Mod x k
 | 0, hn => by obtain rfl : k = 0 := by omega
               rfl
 |n+1,hn=>by
   by_cases e:k=n+1
   . rw[e]
   . have A:=zK h n (by omega);rw[dM,if_pos (by rw[A];exact h),A]
theorem SU(w:World)(P M x:Int)(mv:Value)(Mod:LI)(hm:SI w mv Mod)(F:aC P M≠0)(N:pW P M Mod):
   Calls Tryz.prog 272 #[.agg #[.int .i64 P,.int .i64 M,mv],.int .i64 x] w (iJ w (fJ P M Mod x)):=by
 have Q:=zh hm;clear hm;have R:=zh N;clear N;have U:=aK P M;obtain⟨q,hq⟩:∃q:Nat,aC P M=(q:Int):=⟨(aC P M).toNat,by omega⟩
 have V:1<=q:=by rcases Nat.eq_zero_or_pos q with h|h;exact absurd (by rw[hq,h];rfl) F;exact h
 have Z:q<=256:=by omega
 have I:Hid (fJ P M Mod x=dM P M Mod x q):=by show _=_;unfold fJ;rw[hq];rfl
 have S:=zh F;clear F U;have T:=zh hq;clear hq;have G:=zh (cV.mk' w P M mv);go_enter Tryz.func272,Tryz.ntmps272;go_wp2_with fail;obtain⟨w0,O⟩:∃w0,w0=w.alloc (.cells #[.int .i64 P,.int .i64 M,mv] 24):=⟨_,rfl⟩
 rw[<-O] at G|-;clear O;go_loopw [5] (fun i wr=>∃k:Nat,1<=k/\k<=q/\i=.int .i64 (k:Int)/\Hid (dM P M Mod x k=0)/\Hid (cV w wr P M mv)) (fun i _=>(q-intOf i).toNat)
 case atStart=>exact⟨1,Nat.le_refl _,V,rfl,by show _=_;rw[dM,dM,if_neg (by decide),if_neg (by simp)],G⟩
 case round=>
   obtain⟨k,X,W,rfl,E,C⟩:=hrel;have c0:=C.c0;have c1:=C.c1;have c2:=C.c2;go_wp2_with fail;refine(lS _ P M mv).mono ?_;rintro e w1 ⟨rfl,K⟩;rw[T.out];have A:=zh (C.on K);clear c0 c1 c2 K;have c0:=A.c0;have c1:=A.c1;have c2:=A.c2;by_cases Y:k<q
   . go_wp2_with fail;refine(AG _ P M x _ mv Mod (Q.below A.bel zr) S R).mono ?_;rintro e w2 ⟨rfl,L⟩;have H:=zh (A.on L);clear L;by_cases B:bO P M Mod x k=1
     . have D:Hid (dM P M Mod x q=k):=by
         have J:dM P M Mod x (k+1)=k:=by rw[dM,if_neg (by rw[E.out];simp),if_pos ⟨by omega,B⟩]
         show _=_;rw[zK (k:=k+1) (by rw[J];omega) q (by omega),J]
       have hb:(bO P M Mod x k==1)=true:=by rw[beq_iff_eq];exact B
       clear B;generalize bO P M Mod x k=z at*;go_wp2_with fail;go_ret;exact⟨by rw[I.out,D.out];rfl,H.bel⟩
     . have hb:(bO P M Mod x k==1)=false:=by rw[beq_eq_false_iff_ne];exact B
       have D:Hid (dM P M Mod x (k+1)=0):=by show _=_;rw[dM,if_neg (by rw[E.out];simp),if_neg (fun h=>B h.2)]
       clear B;generalize bO P M Mod x k=z at*;go_wp2_with fail;exact⟨⟨k+1,by omega,by omega,rfl,D,H⟩,by simp only[intOf];omega⟩
   . obtain rfl:q=k:=by omega
     go_wp2_with fail;go_ret;exact⟨by rw[I.out,E.out];rfl,A.bel⟩
theorem AL(w:World)(n:Int)(C:2<=n)(hn:n<=256):Calls Tryz.prog 77 #[.int .i64 n] w fun e w'=>e=.returned (.bool (jJ n))/\w=w':=by
 go_enter Tryz.func77,Tryz.ntmps77
 go_wp2
 go_loop [3] (fun d=>∃k:Int,2<=k/\k<=n/\d=.int .i64 k/\Hid (∀e:Int,2<=e->e<k->n%e≠0)) (fun d=>(n-intOf d).toNat)
 case atStart=>exact⟨2,by omega,by omega,rfl,aD fun e F C=>by omega⟩
 case round=>
  obtain⟨k,H,M,rfl,D⟩:=hrel;have L:¬k=0:=by omega
  by_cases I:k<n
  .by_cases A:n%k=0
   .have B:Hid (jJ n=false):=lN fun J=>J.2 k H I A;have K:(n%k==0)=true:=by simp[A]
    have E:=zh A;clear A
    go_wp2
    go_ret;exact⟨by rw[B.out];rfl,rfl⟩
   .have K:(n%k==0)=false:=by simp[A]
    have E:=zh A;clear A
    go_wp2
    go_round
    case rel=>exact⟨k+1,by omega,by omega,rfl,aD fun e F C=>by
     by_cases G:e=k
     .subst G;exact E.out
     .exact D.out e F (by omega)⟩
    case measure=>simp[intOf];omega
  .obtain rfl:n=k:=by omega
   have B:Hid (jJ n=true):=nD ⟨C,D.out⟩
   go_wp2
   go_ret;exact⟨by rw[B.out];rfl,rfl⟩
theorem ER(w:World)(Ae Af:Value)(low mod:LI)(p:Int)(X:SI w Ae low)(hm:SI w Af mod)(Ab:2<=p)(Bs:p<=256)(Ar:1<=low.length)(τ:low.length<=mod.length)(At:mod.length<=8)(φ:Rng p low)(Aa:Rng p mod):
   Calls Tryz.prog 142 #[Ae,Af,.int .i64 p] w (sG w (eR p low mod)):=by
 obtain⟨d,m⟩:∃d,d=low.length:=⟨_,rfl⟩
 obtain⟨n,hn⟩:∃n,n=mod.length:=⟨_,rfl⟩
 obtain⟨Bb,Cb,rfl,X⟩:=X;obtain⟨Bc,Cc,rfl,hm⟩:=hm;have ε:=zh X.si;have ζ:=zh hm.si;clear X hm;rw[<-m] at ε Ar τ|-;rw[<-hn] at ζ τ At|-;have S:=zh m;have O:=zh hn;clear m hn;have Ag:=zh φ;have Ah:=zh Aa;clear φ Aa;have Br:¬p=0:=by omega
 go_enter Tryz.func142,Tryz.ntmps142;have c:=zh (OI.empty (B:=w.heap.size) w zr);have η:=zh (ζ.below (aF w (.cells #[] 3)) zr);have μ:Hid (([]:LI).length+mod.length<=17592186044416):=by show _<=_;rw[<-O.out];simp;omega
 have W:Hid (([]++mod:LI).length=n):=by show _=_;rw[List.nil_append,O.out]
 obtain⟨L,l⟩:∃L,L=n+1:=⟨_,rfl⟩
 have ν:Hid (([]++mod++[1]:LI).length=L):=by show _=_;rw[l,List.nil_append,aZ1,<-O.out];rfl
 have Bk:1<=L:=by omega
 have Bl:L<=9:=by omega
 have M:=zh l;clear l;have f:Hid (w.heap.size<=(w.alloc (.cells #[] 3)).heap.size):=by show _<=_;simp
 have v:=zh (aF w (.cells #[] 3))
 go_wp2_with (first
   |(at_builtin;refine dW rfl _ _ rfl w.heap.size _ _ rfl c _ mod rfl η μ f ?_;(intro Cd w1 C hg Aw);go_must (have Z:=zh (c.bgrown v f hg);obtain⟨G,Be,rfl,Bf,Bg⟩:=C.form (by rw[W.out];omega);rw[W.out] at C|-;have P:=zh (BR.mk' (w0:=w) C Z Z.size 1);clear C hg Aw))
   |(at_builtin;refine fF rfl _ _ rfl w.heap.size _ ([]++mod) rfl P.own w1.heap.size 1 1 rfl P.box (by rw[W.out];omega) P.up ?_;(intro Ce w2 C hg);go_must (have y:=zh (P.below zr hg);obtain⟨u,π,rfl,ρ,Bh⟩:=C.form (by simp);rw[ν.out] at C|-;have U:=zh C;clear C hg)))
 rw[List.nil_append] at U;obtain⟨E,R⟩:∃E,E=mod++[1]:=⟨_,rfl⟩
 rw[<-R] at U;have ι:Hid (E.length=n+1):=by show _=_;rw[R,aZ1,<-O.out];rfl
 have Ak:Hid (Rng p E):=by
   rw[R];intro k;by_cases σ:k<mod.length
   . have e:(mod++[(1:Int)]).getD k 0=mod.getD k 0:=by simp[List.getD,aY2 σ]
     rw[e];exact Ah.out k
   . by_cases Aq:k=mod.length
     . subst Aq;have e:(mod++[(1:Int)]).getD mod.length 0=1:=by simp[List.getD]
       rw[e];omega
     . rw[aW (by rw[aZ1,aZ2];omega)];omega
 have a:Hid (eR p low mod=(eY p low E (n+1-d)).all (·==0)):=by show _=_;unfold eR;rw[<-R,<-O.out,<-S.out]
 clear R;clear μ W f ν c η P v Z;go_loopw [9] (fun i wr=>∃t I:Nat,t<=n+1-d/\I+t=n/\i=.int .i64 (I:Int)/\Hid (OI w.heap.size wr (.slice (some ⟨u,0,none⟩) L π) (eY p low E t))/\Hid (Below w.heap.size w wr)) (fun i _=>(intOf i).toNat)
 case atStart=>exact⟨0,n,aZ5 _,rfl,by have:=M.out;congr 1;omega,U,y⟩
 case round=>
   clear U y;obtain⟨t,I,Bx,hI,rfl,A,F⟩:=hrel;obtain⟨r,K⟩:∃r,r=eY p low E t:=⟨_,rfl⟩
   rw[<-K] at A;have Q:Hid (r.length=n+1):=by show _=_;rw[K,nW,ι.out]
   have Bj:I<L:=by have:=M.out;omega
   have κ:Hid (Rng p r):=by rw[K];exact vR Ab low E Ak.out t
   by_cases Bn:d<=I
   . have ξ:=A.cell I (by rw[Q.out];omega);obtain⟨q,hq⟩:∃q,q=r.getD I 0:=⟨_,rfl⟩
     rw[<-hq] at ξ;have Ai:Hid (eY p low E (t+1)=(fS p low q I d r).set I 0):=by show _=_;rw[eY,ι.out,show n+1-1-t=I by omega,<-K,<-hq,S.out]
     have Ac:=κ.out I;rw[<-hq] at Ac;obtain⟨Bt,Bu⟩:=Ac;have Bi:I<=8:=by omega
     have Ao:I<n+1:=by omega
     clear K hq;go_wp2_with fail;clear ξ;go_loopw [11] (fun j wr=>∃k:Nat,k<=d/\j=.int .i64 (k:Int)/\Hid (OI w.heap.size wr (.slice (some ⟨u,0,none⟩) L π) (fS p low q I k r))/\Hid (Below w.heap.size w wr)) (fun j _=>(d-intOf j).toNat)
     case atStart=>exact⟨0,aZ5 _,rfl,A,F⟩
     case round=>
       clear A F;obtain⟨j,o,rfl,A,F⟩:=hrel;obtain⟨H,J⟩:∃H,H=fS p low q I j r:=⟨_,rfl⟩
       rw[<-J] at A;have z:Hid (H.length=n+1):=by show _=_;rw[J,mE,Q.out]
       by_cases As:j<d
       . obtain⟨Ca,Y,rfl,Bd,_,θ⟩:=(ε.below F zr).elt (k:=j) (by rw[<-S.out];exact As);have ω:=Ag.out j;rw[θ.out] at ω;obtain⟨ψ,Bo⟩:=ω;have s:=sW Ab low q I j r κ.out;rw[<-J] at s;obtain⟨D,h⟩:∃D,D=I-d:=⟨_,rfl⟩
         obtain⟨T,hT⟩:∃T,T=D+j:=⟨_,rfl⟩
         have Ap:T<n+1:=by omega
         have Bm:T<L:=by have:=M.out;omega
         have By:IntKind.i64.wrap ((I:Int)-(d:Int))=(D:Int):=by rw[IntWalk.i64_in _ (by omega)];omega
         have Bz:IntKind.i64.wrap ((D:Int)+(j:Int))=(T:Int):=by rw[IntWalk.i64_in _ (by omega)];omega
         have Ad:fS p low q I (j+1) r=H.set T ((H.getD T 0+(p-q)*Y)%p):=by rw[fS,<-J,θ.out,<-S.out,<-h,<-hT]
         have Al:=zh Ad;have g:=A.cell T (by rw[z.out];exact Ap);have An:=A.frozen T;have V:=zh (A.set T ((H.getD T 0+(p-q)*Y)%p));have Au:=s T;generalize H.getD T 0=Ay at*;clear J Ad s;have Ba:=zh hT;have Az:=zh h;clear hT h;obtain⟨Bv,Bw⟩:=Au;have Av:0<=p-q:=by omega
         have Bp:0<=(p-q)*Y:=Int.mul_nonneg Av ψ;have Bq:(p-q)*Y<=256*256:=Int.mul_le_mul (by omega) (by omega) ψ (by omega);go_wp2_with fail
         go_still_tail 26,(by kernel_rfl)
         change wpList _ _ _ _ _ wr.drew;go_wp2_with fail;exact⟨⟨j+1,by omega,rfl,by rw[Al.out];exact V.below (aH _) zr,(F.setCell ρ _).drew⟩,by simp only[intOf];omega⟩
       . obtain rfl:d=j:=by omega
         have g:=A.cell I (by rw[z.out];exact Ao);have An:=A.frozen I;have V:=zh (A.set I 0);rw[J] at V;generalize H.getD I 0=Ay at*;clear J;go_wp2_with fail;exact⟨⟨t+1,I-1,by omega,by omega,by congr 1;omega,by rw[Ai.out];exact V,F.setCell ρ _⟩,by simp only[intOf];omega⟩
   . obtain rfl:t=n+1-d:=by omega
     rw[<-K] at a;clear K;go_wp2_with fail;go_loop [12] (fun i=>∃k:Nat,k<=L/\i=.int .i64 (k:Int)/\Hid (∀j,j<k->r.getD j 0=0)) (fun i=>(L-intOf i).toNat)
     case atStart=>exact⟨0,aZ5 _,rfl,aD fun j o=>absurd o (by omega)⟩
     case round=>
       obtain⟨k,σ,rfl,δ⟩:=hrel;by_cases χ:k<L
       . have g:=A.cell k (by rw[Q.out,<-M.out];exact χ);obtain⟨q,hq⟩:∃q,q=r.getD k 0:=⟨_,rfl⟩
         rw[<-hq] at g;by_cases N:q=0
         . have hb:(q !=0)=false:=by simp[N]
           have Aj:=zh hq;have Am:=zh N;clear hq N;go_wp2_with fail;exact⟨⟨k+1,by omega,rfl,aD fun j o=>by
             by_cases e:j=k
             . subst e;rw[<-Aj.out];exact Am.out
             . exact δ.out j (by omega)⟩,by simp only[intOf];omega⟩
         . have hb:(q !=0)=true:=by simp[N]
           have b:Hid (eR p low mod=false):=by show _=_;rw[a.out,List.all_eq_false];exact⟨q,by rw[hq];exact F2 k (by rw[Q.out,<-M.out];exact χ),by simp[N]⟩
           clear hq N;go_wp2_with fail;go_ret;exact⟨by rw[b.out];rfl,F.out⟩
       . have b:Hid (eR p low mod=true):=by
           show _=_;rw[a.out,List.all_eq_true];intro x Ax;obtain⟨i,hi,rfl⟩:=List.mem_iff_getElem.1 Ax;have:=δ.out i (by rw[Q.out,<-M.out] at hi;omega);simp[List.getD,hi] at this;simp[this]
         go_wp2_with fail;go_ret;exact⟨by rw[b.out];rfl,F.out⟩
theorem SM{p:Int}(A:2<=p){n e:Nat}(hq:p^n<=256)(D:2*(e+1)<=n):2<=p^(e+1)/\p^(e+1)<=256:=by have C:=cY A (show e+1<=n by omega);have B:=cY A (show 1<=e+1 by omega);rw[Int.pow_one] at B;omega
theorem SY(w:World)(b:Value)(mod:LI)(p:Int)(hm:SI w b mod)(E:2<=p)(t:p<=256)(W:mod.length<=8)(hq:p^mod.length<=256)(X:Rng p mod):
   Calls Tryz.prog 78 #[b,.int .i64 p] w (sG w (uN p mod)):=by
 obtain⟨n,hn⟩:∃n,n=mod.length:=⟨_,rfl⟩
 obtain⟨δ,μ,rfl,hm⟩:=hm;have O:=zh hm.si;clear hm;rw[<-hn] at O W hq|-;have H:=zh hn;clear hn;have f:=zh X;clear X;have g:=zh hq;clear hq;have N:Hid (uN p mod=pV p mod (n/2)):=by show _=_;unfold uN;rw[<-H.out]
 go_enter Tryz.func78,Tryz.ntmps78;go_wp2_with fail;go_loopw [5,6] (fun c d wr=>∃(e D:Nat) (z:Int),e<=n/2/\D=e+1/\c=.int .i64 z/\d=.int .i64 (D:Int)/\Hid (z=p^e)/\Hid (pV p mod e=true)/\Hid (Below w.heap.size w wr)) (fun _ d _=>(n+1-intOf d).toNat)
 case atStart=>exact⟨0,1,1,aZ5 _,rfl,rfl,rfl,by show _=_;rw[Int.pow_zero],rfl,bE _⟩
 case round=>
   obtain⟨e,D,z,η,S,rfl,rfl,R,M,B⟩:=hrel;by_cases q:2*D<=n
   . have Y:=SM (e:=e) E g.out (by omega);have a:z*p=p^(e+1):=by rw[R.out,Int.pow_succ]
     obtain⟨V,G⟩:∃V:Nat,p^(e+1)=(V:Int):=⟨(p^(e+1)).toNat,by omega⟩
     rw[G] at a Y;have Q:Hid ((p^(e+1)).toNat=V):=by rw[G];rfl
     have j:=zh G;clear G;obtain⟨ι,κ⟩:=Y;have r:2*(D:Int)<=(n:Int):=by omega
     have y:0<=z:=by rw[R.out];have:=gC E e;omega
     have C:=zh S;clear S;have l:1<=D:=by have:=C.out;omega
     have o:D<=n:=by omega
     go_wp2_with fail;clear a y;go_loopw [7] (fun v wr=>∃k:Nat,k<=V/\v=.int .i64 (k:Int)/\Hid (mL p mod D k=true)/\Hid (Below w.heap.size w wr)) (fun v _=>(V-intOf v).toNat)
     case atStart=>exact⟨0,aZ5 _,rfl,rfl,B⟩
     case round=>
       clear B;obtain⟨k,θ,rfl,P,B⟩:=hrel;by_cases s:k<V
       . go_wp2_with fail;refine(xE _ _ _ _ (by omega) (by omega) E (by omega) (by omega) (by omega)).mono ?_;rintro ε w1 ⟨u,rfl,J,T⟩;rw[show((D:Int)).toNat=D from aZ8 D] at J;have Z:=J.si (by rw[dI];omega) (fun i=>by have:=fN (x:=(k:Int)) (m:=D) E i;exact I64.of_small (by omega) (by omega));have h:=zh Z;clear Z J;have K:=zh (aA B T);clear T;go_wp2_with fail;refine(ER _ _ _ (bU k p D) mod p h (O.below K zr) E t (by rw[dI];exact l) (by rw[dI,<-H.out];exact o) (by rw[<-H.out];exact W) (fun i=>fN E i) f).mono ?_;rintro ζ w2 ⟨rfl,U⟩;have L:=zh (aA K U);clear U;by_cases F:eR p (bU k p D) mod=true
         . have A:Hid (uN p mod=false):=by
             show _=_;rw[N.out];exact wX (d:=e) (by have:=C.out;omega) (by rw[Q.out,<-C.out];exact uZ s F)
           rw[F];clear F;go_wp2_with fail;go_ret;exact⟨by rw[A.out];rfl,L.out⟩
         . have I:eR p (bU k p D) mod=false:=by simpa using F
           have A:Hid (mL p mod D (k+1)=true):=by show _=_;rw[GO,P.out,I];rfl
           rw[I];clear F I;go_wp2_with fail;exact⟨⟨k+1,by omega,rfl,A,L⟩,by simp only[intOf];omega⟩
       . obtain rfl:V=k:=by omega
         have A:Hid (pV p mod (e+1)=true):=by show _=_;rw[JH,M.out,Q.out,<-C.out,P.out];rfl
         go_wp2_with fail;exact⟨⟨e+1,D+1,_,by have:=C.out;omega,by have:=C.out;omega,rfl,rfl,j.symm,A,B⟩,by simp only[intOf];omega⟩
   . have A:Hid (uN p mod=true):=by
       show _=_;rw[N.out,show n/2=e by omega,M.out]
     have r:(n:Int)<2*(D:Int):=by omega
     clear q;go_wp2_with fail;go_ret;exact⟨by rw[A.out];rfl,B.out⟩
def cK(P M:Int)(Mod:LI):Prop:=aC P M≠0/\lE P/\pW P M Mod/\(M≠1->uN P Mod=true)
noncomputable def cN(P M:Int)(Mod:LI):Int:= @ite _ (cK P M Mod) (Classical.propDecidable _) 0 1
theorem jP{P M:Int}{Mod:LI}(h:cK P M Mod):cN P M Mod=0:=by unfold cN;rw[if_pos h]
theorem dZ{P M:Int}{Mod:LI}(h:¬cK P M Mod):cN P M Mod=1:=by unfold cN;rw[if_neg h]
theorem jY(w:World)(P M:Int)(mv:Value)(Mod:LI)(hm:SI w mv Mod):
   Calls Tryz.prog 36 #[.agg #[.int .i64 P,.int .i64 M,mv]] w (iJ w (cN P M Mod)):=by
 obtain⟨c,l,rfl,hm⟩:=hm;have hn:=hm.len;have Z:=zh hm.si;clear hm;have W:=zh (cV.mk' w P M (.slice c Mod.length l));by_cases G:aC P M=0
 . have A:Hid (cN P M Mod=1):=dZ fun h=>h.1 G;have N:=zh G;clear G;go_enter Tryz.func36,Tryz.ntmps36;go_wp2_with fail;refine(lS _ P M _).mono ?_;rintro e w1 ⟨rfl,F⟩;rw[N.out];have n:=zh (aA (aF _ _) F);clear F;go_wp2_with fail;go_ret;exact⟨by rw[A.out];rfl,n.out⟩
 obtain⟨T,U,δ,ε,hq,u⟩:=bN G;clear u;have μ:(aC P M==0)=false:=by rw[beq_eq_false_iff_ne];exact G
 have N:=zh G;clear G;generalize hoo:aC P M=o at*;have O:=zh hoo;clear hoo;by_cases K:lE P
 case neg=>have A:Hid (cN P M Mod=1):=dZ fun h=>K h.2.1;have R:Hid (jJ P=false):=lN K;clear K hq;go_enter Tryz.func36,Tryz.ntmps36;go_wp2_with fail;refine(lS _ P M _).mono ?_;rintro e w1 ⟨rfl,F⟩;rw[O.out];have C:=zh (W.on F);clear F;have c0:=C.c0;go_wp2_with fail;refine(AL _ P T U).mono ?_;rintro e w2 ⟨rfl,rfl⟩;rw[R.out];go_wp2_with fail;go_ret;exact⟨by rw[A.out];rfl,C.bel⟩
 have b:=zh K;have R:Hid (jJ P=true):=nD K;clear K;go_enter Tryz.func36,Tryz.ntmps36;go_wp2_with fail;refine(lS _ P M _).mono ?_;rintro e w1 ⟨rfl,F⟩;rw[O.out];have C:=zh (W.on F);clear F;have c0:=C.c0;have c1:=C.c1;have c2:=C.c2;go_wp2_with fail;refine(AL _ P T U).mono ?_;rintro e w2 ⟨rfl,rfl⟩;rw[R.out];by_cases E:M=1
 . have t:(M==1)=true:=by rw[beq_iff_eq];exact E
   by_cases B:Mod.length=0
   . have Q:(((Mod.length:Nat):Int) !=0)=false:=by simp;exact List.eq_nil_of_length_eq_zero B
     have A:Hid (cN P M Mod=0):=jP ⟨by rw[O.out];exact N.out,b.out,⟨fun _=>List.eq_nil_of_length_eq_zero B,fun h=>absurd E h⟩,fun h=>absurd E h⟩;clear E B hq;go_wp2_with fail;go_ret;exact⟨by rw[A.out];rfl,C.bel⟩
   . have Q:(((Mod.length:Nat):Int) !=0)=true:=by rw[bne_iff_ne];omega
     have A:Hid (cN P M Mod=1):=dZ fun h=>B (by rw[h.2.2.1.1 E];rfl);clear E B hq;go_wp2_with fail;go_ret;exact⟨by rw[A.out];rfl,C.bel⟩
 have t:(M==1)=false:=by rw[beq_eq_false_iff_ne];exact E
 have I:=zh E;clear E;by_cases B:(Mod.length:Int)=M
 case neg=>
   have Q:(((Mod.length:Nat):Int) !=M)=true:=by rw[bne_iff_ne];exact B
   have A:Hid (cN P M Mod=1):=dZ fun h=>B (h.2.2.1.2 I).1;clear B hq;go_wp2_with fail;go_ret;exact⟨by rw[A.out];rfl,C.bel⟩
 have Q:(((Mod.length:Nat):Int) !=M)=false:=by rw[bne_eq_false_iff_eq];exact B
 have H:=zh B;clear B;have q:=zh hq;clear hq;go_wp2_with fail;obtain⟨m,ν⟩:∃m,m=w1:=⟨_,rfl⟩
 clear Q;go_loopw [3] (fun i wr=>∃k:Nat,k<=Mod.length/\i=.int .i64 (k:Int)/\Hid (∀j,j<k->0<=Mod.getD j 0/\Mod.getD j 0<P)/\Hid (cV w wr P M (.slice c Mod.length l))) (fun i _=>(M-intOf i).toNat)
 case atStart=>exact⟨0,aZ5 _,rfl,aD fun j L=>absurd L (by omega),C⟩
 case round=>
   clear c0 c1 c2;obtain⟨k,θ,rfl,Y,D⟩:=hrel;have c0:=D.c0;have c1:=D.c1;have c2:=D.c2;by_cases V:k<Mod.length
   . obtain⟨y,x,rfl,ζ,_,S⟩:=(Z.below D.bel zr).elt V;have κ:(k:Int)<M:=by have:=H.out;omega
     by_cases v:x<0
     . have A : Hid (cN P M Mod = 1) := dZ fun h => by
         have:=((h.2.2.1.2 I).2 k V).1;rw[S.out] at this;omega
       have s:decide (x<0)=true:=by simp[v]
       go_wp2_with fail
       go_quiet (fail)
       go_wp2_with fail;go_ret;exact⟨by rw[A.out];rfl,(D.drewN _).bel⟩
     . have s:decide (x<0)=false:=by simp;omega
       by_cases ξ:P<=x
       . have A : Hid (cN P M Mod = 1) := dZ fun h => by
           have:=((h.2.2.1.2 I).2 k V).2;rw[S.out] at this;omega
         go_wp2_with fail
         go_quiet (fail)
         go_wp2_with fail;go_ret;exact⟨by rw[A.out];rfl,(D.drewN _).bel⟩
       . have z:decide (P<=x)=false:=by simp;omega
         go_wp2_with fail
         go_quiet (fail)
         go_wp2_with fail;exact⟨⟨k+1,by omega,rfl,aD fun j L=>by
           by_cases e:j=k
           . subst e;rw[S.out];omega
           . exact Y.out j (by omega),D.drewN _⟩,by simp only[intOf];omega⟩
   . have g:(k:Int)=M:=by have:=H.out;omega
     have η:M<=(k:Int):=by omega
     have p:=zh g;clear g;have a:Hid (pW P M Mod):=⟨fun h=>absurd h I,fun _=>⟨H.out,fun j L=>Y.out j (by have:=H.out;have:=p.out;omega)⟩⟩
     have r:Hid (Rng P Mod):=fun j=>by
       by_cases L:j<Mod.length
       . exact(a.2 I).2 j L
       . rw[aW (by omega)];omega
     have ι:¬(k:Int)<M:=by omega
     go_wp2_with fail;refine(SY _ _ Mod P (Z.below D.bel zr) T U (by have:=H.out;omega) (by have:=q.out;rwa[show M.toNat=Mod.length by have:=H.out;omega] at this) r).mono ?_;rintro e π ⟨rfl,d⟩;have X:=zh (D.on d);clear d;by_cases J:uN P Mod=true
     . have A:Hid (cN P M Mod=0):=jP ⟨by rw[O.out];exact N.out,b.out,a.out,fun _=>J⟩;rw[J];clear J;go_wp2_with fail;go_ret;exact⟨by rw[A.out];rfl,X.bel⟩
     . have f:uN P Mod=false:=by simpa using J
       have A:Hid (cN P M Mod=1):=dZ fun h=>J (h.2.2.2 I);rw[f];clear J f;go_wp2_with fail;go_ret;exact⟨by rw[A.out];rfl,X.bel⟩
section
variable {P:Program} {ops:Array Oper} {Q:Exit->Act->World->Prop} {S:World->Prop}
theorem aG.two{i j n:Nat}{oi oj:Oper}{L:Array Bool}{a:Act}{w:World}(E:Region.ready .any ops L=[i,j])(hi:ops[i]?=some oi)(I:ops[j]?=some oj)
  (G:∀K:Act->World->Prop,Hid (∀b v,S v->(S v->aG P ops Q S n (L.setIfInBounds i true) b v)->K b v)->if Region.wanted oi (yielded ops a.tmps)=true then Oper.wp P oi a w K Q else K (a.put oi.dst undef) w)
  (H:∀K:Act->World->Prop,Hid (∀b v,S v->(S v->aG P ops Q S n (L.setIfInBounds j true) b v)->K b v)->if Region.wanted oj (yielded ops a.tmps)=true then Oper.wp P oj a w K Q else K (a.put oj.dst undef) w):
  aG P ops Q S (n+1) L a w:=by
 refine⟨fun F=>absurd (E.symm.trans F) (by simp),fun k B=>?_⟩;rw[E] at B;rcases List.mem_cons.1 B with rfl|B
 .exact wpOp_step hi (fun C hK=>G C (fun b v A D=>hK b v ⟨A,D A⟩))
 .obtain rfl:k=j:=by simpa using B
  exact wpOp_step I (fun C hK=>H C (fun b v A D=>hK b v ⟨A,D A⟩))
end
theorem GH(w:World):∃w' g,w.alloc (.cells #[] 3)=w'/\w.heap.size=g/\OI g w' (.slice (some ⟨g,0,none⟩) 0 0) []/\Below w.heap.size w w':=
 ⟨_,_,rfl,rfl,OI.empty w zr,aF _ _⟩
theorem vZ(w:World)(n:Nat):∃w' g,w.alloc (.cells (madeCells #[.int .i64 0] n) 3)=w'/\w.heap.size=g/\RI w' g (List.replicate n 0)/\Below w.heap.size w w':=
 ⟨_,_,rfl,rfl,RI.made w n,aF _ _⟩
theorem bB(w:World)(t:TypeId)(cs:List Value):∃w' g,w.alloc (.cells cs.toArray t)=w'/\w.heap.size=g/\Blk w' g t cs/\Below w.heap.size w w':=
 ⟨_,_,rfl,rfl,Blk.new w t cs,aF _ _⟩
theorem uV(w:World)(t:TypeId)(cs:List Value):∃w' g,(w.alloc (.cells cs.toArray t)).drew=w'/\w.heap.size=g/\Blk w' g t cs/\Below w.heap.size w w':=
 ⟨_,_,rfl,rfl,Blk.new w t cs,aA (aF _ _) (aH _)⟩
end Go.Proofs.YtpfhoemohibniaaGreatDoor
