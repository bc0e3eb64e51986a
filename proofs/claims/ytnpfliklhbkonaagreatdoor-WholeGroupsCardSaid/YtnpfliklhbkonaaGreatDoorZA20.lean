/- Parts. -/
import Derived.Test.YtnpfliklhbkonaaGreatDoorZA11
import Derived.Test.YtnpfliklhbkonaaGreatDoorZA18
set_option maxRecDepth 99999
set_option maxHeartbeats 0
set_option linter.unusedVariables false
namespace Go.Proofs.YtnpfliklhbkonaaGreatDoor
open Go.Proofs.Tryz
open Go.RowKit
theorem xT(w:Wo)(a:Nat)(P M x:Int)(Mq:LI)(h:GF w a P M Mq):Calls prog 92 #[.pointer a,x] w (fun e w'=>e=.returned (.bool (isB P M x))/\w=w'):=by
 obtain⟨q,mv,H,F,gl,G,E,L,h⟩:=h;have c3:=h.c3;have A:Hid (isB P M x=(decide (0<=x)&&decide (x<(q:Int)))):=by show _=_;unfold isB;rw[h.ord]
 clear h;by_cases D:0<=x
 .have C:decide (0<=x)=true:=by simpa using D
  rw[C,Bool.true_and] at A;by_cases hq:x<(q:Int)
  .have B:decide (x<(q:Int))=true:=by simpa using hq
   rw[B] at A;go_enter func92,ntmps92;go_wp2;go_ret;exact⟨by rw[A.out];rfl,rfl⟩
  .have B:decide (x<(q:Int))=false:=by simpa using hq
   rw[B] at A;go_enter func92,ntmps92;go_wp2;go_ret;exact⟨by rw[A.out];rfl,rfl⟩
 .have C:decide (0<=x)=false:=by simpa using D
  rw[C,Bool.false_and] at A;go_enter func92,ntmps92;go_wp2;go_ret;exact⟨by rw[A.out];rfl,rfl⟩
theorem G8(w:Wo)(a:Nat)(P M:Int)(Mq l:LI)(v:Va)(h:GF w a P M Mq)(C:SI w v l):
 Calls prog 272 #[.pointer a,v] w (fun e w'=>e=.returned (.int .i64 (dH (aF P M) l))/\w=w'):=by
 obtain⟨A,c,rfl,C⟩:=C;have hn:=C.len;have K:=zh C;clear C;have F:=zh h;clear h;go_enter func272,ntmps272;go_wp2;go_loop [9] (fun i=>∃k:Nat,k<=l/\i=(k:aV)/\Hid (∀j,j<k->0<=l j 0/\l j 0<aF P M)) (fun i=>l.length-(intOf i).toNat)
 .exact⟨0,aZ5 _,rfl,aG fun j I=>aB I om⟩
 .
  obtain⟨k,hk,rfl,G⟩:=hrel;by_cases J:k<l
  .obtain⟨N,x,rfl,O,_,H⟩:=K.elt J;by_cases B:0<=x/\x<aF P M
   .have D:Hid (isB P M x=true):=yB B;have L:=zh B;clear B;go_wp2_with fail;apply(xT _ a P M x Mq F).mono;rintro e w1⟨rfl,rfl⟩;rw[D.out];go_wp2;go_round
    .exact⟨k+1,om,by go_num,aG fun j I=>by
     by_cases e:j=k
     .subst e;rw[H.out];exact L.out
     .exact G.out j om⟩
    .simp[intOf];omega
   .have D:Hid (isB P M x=false):=uN B;have E:Hid (dH (aF P M) l=2):=xN J (H.out▸B);clear B;go_wp2_with fail;apply(xT _ a P M x Mq F).mono;rintro e w1⟨rfl,rfl⟩;rw[D.out];go_wp2;go_ret;exact⟨by rw[E.out];rfl,rfl⟩
  .obtain rfl:l=k:=om;have E:Hid (dH (aF P M) l=0):=tL G.out;go_wp2;go_ret;exact⟨by rw[E.out];rfl,rfl⟩
def sO(q A:Int)(rows:LL):Int:=if A<0\/256<A\/256<(rows.length:Int) then 3 else if tS A rows=true then(if zH q rows=true then 0 else 2) else 3
theorem yG{P M:Int}{Mq:LI}(B:cZ P M Mq)(A:Int)(rows:LL):fB P M Mq A rows=sO (aF P M) A rows:=by unfold fB sO;rw[iN (by rw[nQ B];decide)]
theorem br{P M:Int}{Mq:LI}(A:¬cZ P M Mq)(B:Int)(rows:LL):fB P M Mq B rows=1:=by unfold fB;rw[iP (by rw[fO A];decide),fO A]
theorem wJ(w:Wo)(a:Nat)(P M B:Int)(Mq:LI)(rv:Va)(rows:LL)(h:GF w a P M Mq)(L:SS w rv rows):
 Calls prog 159 #[.pointer a,.agg #[B,rv]] w (kV w (sO (aF P M) B rows)):=by
 obtain⟨A,c,rfl,L⟩:=L;have o:=L.len;have Y:=zh (h.on (aH w (.cells #[B,.slice A rows c] 74)));clear h;have S:=zh ((show SS w (.slice A rows c) rows from⟨A,c,rfl,L⟩).below (aH w (.cells #[B,.slice A rows c] 74)) zr);clear L;have F:=zh (aH w (.cells #[B,.slice A rows c] 74));have Q:=zh (Blk.new w 74 [(B:aV),.slice A rows c]);obtain⟨n,hn⟩:=xE rows.length;rw[<-hn] at S Y F Q o|-;have E:=zh hn;clear hn;have q:(w.alloc (.cells #[B,.slice A n c] 74)).cell? w.heap.size=some (B:aV):=Q.cell 0;have r:(w.alloc (.cells #[B,.slice A n c] 74)).cell? ⟨w.heap.size,1,none⟩=some (.slice A n c):=Q.cell 1;by_cases I:B<0\/256<B\/256<(n:Int)
 .have G:Hid (sO (aF P M) B rows=3):=by show _=_;unfold sO;rw[<-E.out,iP I]
  rw[G.out];by_cases N:B<0
  .have U:decide (B<0)=true:=by simpa using N
   clear I;go_enter func159,ntmps159;go_wp2;go_ret;exact⟨rfl,F.out⟩
  have U:decide (B<0)=false:=by simpa using N
  by_cases O:256<B
  .have V:decide (256<B)=true:=by simpa using O
   clear I;go_enter func159,ntmps159;go_wp2;go_ret;exact⟨rfl,F.out⟩
  have V:decide (256<B)=false:=by simpa using O
  have W:256<(n:Int):=om;have d:decide (256<(n:Int))=true:=by simpa using W
  clear I;go_enter func159,ntmps159;go_wp2;go_ret;exact⟨rfl,F.out⟩
 have R:Hid (¬(B<0\/256<B\/256<(rows.length:Int))):=by show ¬_;rw[<-E.out];exact I
 obtain⟨N,O,W⟩:¬B<0/\¬256<B/\¬256<(n:Int):=om;have U:decide (B<0)=false:=by simpa using N
 have V:decide (256<B)=false:=by simpa using O
 have d:decide (256<(n:Int))=false:=by simpa using W
 clear I;go_enter func159,ntmps159;go_wp2_with fail;clear U V d;generalize hw0:w.alloc (.cells #[B,.slice A n c] 74)=w0 at*;clear hw0;go_loop [27] (fun i=>∃k:Nat,k<=n/\i=(k:aV)/\Hid (∀j,j<k->((rows j []).length:Int)=B)) (fun i=>(n-(intOf i).toNat))
 .exact⟨0,aZ5 _,rfl,aG fun j D=>aB D om⟩
 .
  obtain⟨k,hk,rfl,H⟩:=hrel;by_cases J:k<n
  .obtain⟨g,f,l,x,rfl,m,b,K⟩:=S.eltA (k:=k) (E.out▸J);by_cases C:(x.length:Int)=B
   .have p:(((x.length:Nat):Int) !=B)=false:=by rw[eB];exact C
    have T:=zh C;clear C;go_wp2;go_round
    .exact⟨k+1,om,by go_num,aG fun j D=>by
     by_cases e:j=k
     .subst e;rw[K.out];exact T.out
     .exact H.out j om⟩
    .simp[intOf];omega
   .have p:(((x.length:Nat):Int) !=B)=true:=by rw[eC];exact C
    have G:Hid (sO (aF P M) B rows=3):=by show _=_;unfold sO;rw[iN R.out,iN];rw[show tS B rows=false from BB (k:=k) (E.out▸J) (by rw[K.out];simpa using C)];decide
    clear C;go_wp2;go_ret;exact⟨by rw[G.out];rfl,F.out⟩
  .obtain rfl:n=k:=om;have Z:Hid (tS B rows=true):=kM fun j D=>by have:=H.out j (E.out▸D);simpa using this
   clear J hk H;go_wp2;go_loop [40] (fun i=>∃k:Nat,k<=n/\i=(k:aV)/\Hid (∀j,j<k->dH (aF P M) (rows j [])=0)) (fun i=>(n-(intOf i).toNat))
   .exact⟨0,aZ5 _,rfl,aG fun j D=>aB D om⟩
   .
    obtain⟨k,hk,rfl,H⟩:=hrel;by_cases J:k<n
    .obtain⟨g,f,l,x,rfl,m,b,K⟩:=S.eltA (k:=k) (E.out▸J);go_wp2_with fail;apply(G8 _ a P M Mq x _ Y b.si).mono;rintro e w2⟨rfl,rfl⟩;by_cases C:dH (aF P M) x=0
     .rw[C];have T:=zh C;clear C;go_wp2;go_round
      .exact⟨k+1,om,by go_num,aG fun j D=>by
       by_cases e:j=k
       .subst e;rw[K.out];exact T.out
       .exact H.out j om⟩
      .simp[intOf];omega
     .have X:dH (aF P M) x=2:=(tK _ _).resolve_left C;have G:Hid (sO (aF P M) B rows=2):=by
       show _=_;unfold sO;rw[iN R.out,iP Z.out,iN];rw[show zH (aF P M) rows=false from BB (k:=k) (E.out▸J) (by rw[K.out,X];rfl)];decide
      rw[X];clear C X;go_wp2;go_ret;exact⟨by rw[G.out];rfl,F.out⟩
    .obtain rfl:n=k:=om;have G:Hid (sO (aF P M) B rows=0):=by show _=_;unfold sO;rw[iN R.out,iP Z.out,iP];exact kM fun j D=>by have:=H.out j (E.out▸D);simpa using this
     go_wp2;go_ret;exact⟨by rw[G.out];rfl,F.out⟩
theorem kD(w:Wo)(a:Nat)(P M x:Int)(Mq:LI)(h:GF w a P M Mq):Calls prog 103 #[.pointer a,x] w (fun e w'=>e=.returned (.int .i64 (inQ (aF P M) x))/\w=w'):=by
 have D:=zh h;clear h;by_cases A:0<=x/\x<aF P M
 .have B:Hid (isB P M x=true):=yB A;have C:Hid (inQ (aF P M) x=x):=by show _=_;unfold inQ;rw[iP A]
  clear A;go_enter func103,ntmps103;go_wp2_with fail;apply(xT _ a P M x Mq D).mono;rintro e w1⟨rfl,rfl⟩;rw[B.out];go_wp2;go_ret;exact⟨by rw[C.out];rfl,rfl⟩
 .have B:Hid (isB P M x=false):=uN A;have C:Hid (inQ (aF P M) x=0):=by show _=_;unfold inQ;rw[iN A]
  clear A;go_enter func103,ntmps103;go_wp2_with fail;apply(xT _ a P M x Mq D).mono;rintro e w1⟨rfl,rfl⟩;rw[B.out];go_wp2;go_ret;exact⟨by rw[C.out];rfl,rfl⟩
theorem uM{q:Int}(hq:0<q)(x:Int):0<=inQ q x/\inQ q x<q:=by unfold inQ;split<;>omega
theorem CI{P M x:Int}(A:aF P M≠0)(C:0<=x)(hq:x<aF P M):x/P^M.toNat=0:=by obtain⟨_,_,_,_,_,B⟩:=bO A;rw[B] at hq;exact Int.ediv_eq_zero_of_lt C hq
theorem BH{d t P:Int}(A:0<=d)(B:d<=256)(t0:0<=t)(D:t<=256):0<=d*t/\d*t<=65536:=by refine⟨Int.mul_nonneg A t0,?_⟩;have C:d*t<=256*t:=Int.mul_le_mul_of_nonneg_right B t0;omega
theorem XP{P A:Int}(B:2<=P){k m:Nat}(h:A/P^k=0):∀i,k<=i->i<m->ndg P A i=0:=fun i hi _=>by unfold ndg;rw[CH B h i hi];simp
theorem U9{P A B:Int}(C:2<=P){k m:Nat}(h:A/P^k=0)(D:B/P^k=0):∀i,k<=i->i<m->adg P A B i=0:=fun i hi _=>by unfold adg;rw[CH C h i hi,CH C D i hi];simp
theorem xU(w:Wo)(a:Nat)(P M x:Int)(Mq:LI)(h:GF w a P M Mq):Calls prog 275 #[.pointer a,x] w (kV w (iO P M x)):=by
 have Z:=zh h;obtain⟨q,mv,ε,z,gl,δ,E,L,h⟩:=h;have c0:=h.c0;have J:=h.fld.1;clear h;have H:=zh (SR (P:=P) (M:=M) x);obtain⟨B,g,ζ,η,o,_⟩:=bO J;have n:=aM P M;have hA:=uM (q:=aF P M) om x;have G:=zh (CI J hA.1 hA.2);have R:Hid (∀k,k<=M.toNat->P^k<=256):=aG fun k hk=>by have:=dU (show 2<=P from om) hk;omega
 obtain⟨A,I⟩:=xE (inQ (aF P M) x);rw[<-I] at H hA G;have V:=zh I;clear I;obtain⟨c,d⟩:=hA;have f:A<=256:=om;have W:=zh (uK c f B);clear o n d J;obtain⟨m,U⟩:=xE M.toNat
 rw[<-U] at H G R;clear U;have T:¬P=0:=om;go_enter func275,ntmps275;go_wp2_with fail;apply(kD _ a P M x Mq Z).mono;rintro e w1⟨rfl,rfl⟩;rw[<-V.out];go_wp2;go_loopw [1,5,6] (fun u s t wr=>∃k:Nat,k<=m/\u=.int .i64 (A/P^k)/\s=.int .i64 (jB P (ndg P A) k)/\t=.int .i64 (P^k)/\Hid (Below w w wr)) (fun u _ _ _=>(intOf u).toNat)
 .exact⟨0,aZ5 _,by simp,rfl,by simp,bE _⟩
 .
  obtain⟨k,hk,rfl,rfl,rfl,D⟩:=hrel;have X:=W.out k;have O:Hid (A/P^(k+1)=A/P^k/P):=(pT B A k).symm;have Q:Hid (P^(k+1)=P^k*P):=Int.pow_succ P k;have C:Hid (jB P (ndg P A) (k+1)=jB P (ndg P A) k+ -(A/P^k%P)%P*P^k):=by show _=_;rw[jB,ndg,Int.sub_emod_left]
  have S:=IN B (fun i=>jr B A i) k;have r:=jA B k;have K:=R.out k hk;have F:Hid (A/P^k=0->jB P (ndg P A) m=jB P (ndg P A) k):=aG fun b=>KZ hk (XP B b);have N:Hid (k=m->A/P^k=0):=aG fun e=>by rw[e];exact G.out
  generalize A/P^k=u at X O C F N|-;generalize jB P (ndg P A) k=s at C S F|-;generalize P^k=t at Q C S r K|-;have y:=aE D.out c0;by_cases v:0<u
  .have κ:k<m:=by
    rcases Nat.lt_or_ge k m with h|h
    .exact h
    .have:=N.out om;omega
   have ρ:=eN u T;have σ:=eM u (show 0<P from om);have p:=eN (-(u%P)) T;have τ:=eM (-(u%P)) (show 0<P from om);have j:=BH (P:=P) p om (show 0<=t from om) K;have l:=BH (P:=P) (show 0<=t from om) K (show 0<=P from om) g;obtain⟨μ,ν⟩:=j;obtain⟨ξ,π⟩:=l;have ι:u/P<u:=Int.ediv_lt_self_of_pos_of_ne_one v om;have θ:0<=u/P:=Int.ediv_nonneg om om;go_wp2_with fail
   go_quiet (fail)
   go_wp2;exact⟨⟨k+1,om,by rw[O.out],by rw[C.out],by rw[Q.out],aC D (aY _ _)⟩,oI⟩
  .have Y:Hid (iO P M x=s):=by show _=_;rw[H.out];exact F.out om
   go_wp2;go_ret;exact⟨by rw[Y.out];rfl,D.out⟩
theorem xR(w:Wo)(a:Nat)(P M x y:Int)(Mq:LI)(h:GF w a P M Mq):Calls prog 110 #[.pointer a,x,y] w (kV w (fW P M x y)):=by
 have K:=zh h;obtain⟨q,mv,Ai,Ag,gl,Ah,E,L,h⟩:=h;have c0:=h.c0;have G:=h.fld.1;clear h;have D:=zh (PZ (P:=P) (M:=M) x y);obtain⟨C,τ,Aj,Ak,n,l⟩:=bO G;have j:=aM P M;have hA:=uM (q:=aF P M) om x;have hB:=uM (q:=aF P M) om y;have O:=zh (CI G hA.1 hA.2);have Q:=zh (CI G hB.1 hB.2);have V:Hid (∀k,k<=M.toNat->P^k<=256):=aG fun k hk=>by have:=dU (show 2<=P from om) hk;omega
 obtain⟨A,W⟩:=xE (inQ (aF P M) x);obtain⟨B,X⟩:=xE (inQ (aF P M) y);rw[<-W] at D hA O;rw[<-X] at D hB Q;have c:=zh W;have d:=zh X;clear W X;obtain⟨μ,ν⟩:=hA;obtain⟨π,ρ⟩:=hB;have ξ:A<=256:=om;have σ:B<=256:=om;by_cases o:P=2
 .subst o;obtain⟨H,rfl⟩:∃H:Nat,A=(H:Int):=⟨A.toNat,om⟩
  obtain⟨I,rfl⟩:∃I:Nat,B=(I:Int):=⟨B.toNat,om⟩
  have Aa:(2:Int)^M.toNat=((2^M.toNat:Nat):Int):=by push_cast;rfl
  have η:Hid (fW 2 M x y=((H^^^I:Nat):Int)):=by show _=_;rw[D.out];exact LU _ _ _ om om
  have θ:=zh (J4 H I om om);clear D O Q V n l j G Aa;go_enter func110,ntmps110;go_wp2_with fail;apply(kD _ a 2 M x Mq K).mono;rintro e w1⟨rfl,rfl⟩;rw[<-c.out];go_wp2_with fail;apply(kD _ a 2 M y Mq K).mono;rintro e w1⟨rfl,rfl⟩;rw[<-d.out];go_wp2;go_ret;exact⟨by rw[η.out,<-θ.out];rfl,bE _⟩
 have Au:(P==2)=false:=by simpa using o
 have r:=zh (uK μ ξ C);have z:=zh (uK π σ C);clear n j ν ρ G l;obtain⟨m,g⟩:=xE M.toNat
 rw[<-g] at D O Q V;clear g;have Y:¬P=0:=om;go_enter func110,ntmps110;go_wp2_with fail;apply(kD _ a P M x Mq K).mono;rintro e w1⟨rfl,rfl⟩;rw[<-c.out];go_wp2_with fail;apply(kD _ a P M y Mq K).mono;rintro e w1⟨rfl,rfl⟩;rw[<-d.out];go_wp2;go_loopw [1,2,7,8] (fun u v s t wr=>∃k:Nat,k<=m/\u=.int .i64 (A/P^k)/\v=.int .i64 (B/P^k)/\s=.int .i64 (jB P (adg P A B) k)/\t=.int .i64 (P^k)/\Hid (Below w w wr)) (fun u v _ _ _=>(intOf u).toNat+(intOf v).toNat)
 .exact⟨0,aZ5 _,by simp,by simp,rfl,by simp,bE _⟩
 .
  obtain⟨k,hk,rfl,rfl,rfl,rfl,J⟩:=hrel;have δ:=r.out k;have ε:=z.out k;have S:Hid (A/P^(k+1)=A/P^k/P):=(pT C A k).symm;have T:Hid (B/P^(k+1)=B/P^k/P):=(pT C B k).symm;have U:Hid (P^(k+1)=P^k*P):=Int.pow_succ P k;have F:Hid (jB P (adg P A B) (k+1)=jB P (adg P A B) k+(A/P^k+B/P^k)%P*P^k):=by show _=_;rw[jB,adg,Int.emod_add_emod,Int.add_emod_emod]
  have f:=IN C (fun i=>iw C A B i) k;have Ac:=jA C k;have Z:=V.out k hk;have N:Hid (A/P^k=0->B/P^k=0->jB P (adg P A B) m=jB P (adg P A B) k):=aG fun ι κ=>KZ hk (U9 C ι κ);have R:Hid (k=m->A/P^k=0/\B/P^k=0):=aG fun e=>by rw[e];exact⟨O.out,Q.out⟩
  generalize A/P^k=u at δ S F N R|-;generalize B/P^k=v at ε T F N R|-;generalize jB P (adg P A B) k=s at F f N|-;generalize P^k=t at U F f Ac Z|-;have Af:=aE J.out c0;by_cases b:0<u\/0<v
  .have Ap:k<m:=by
    rcases Nat.lt_or_ge k m with h|h
    .exact h
    .have:=R.out om;omega
   have Av:=eN u Y;have Ax:=eM u (show 0<P from om);have Aw:=eN v Y;have Ay:=eM v (show 0<P from om);have Ab:=eN (u+v) Y;have Az:=eM (u+v) (show 0<P from om);have ψ:=BH (P:=P) Ab om (show 0<=t from om) Z;have ω:=BH (P:=P) (show 0<=t from om) Z (show 0<=P from om) τ;obtain⟨Aq,Ar⟩:=ψ;obtain⟨As,At⟩:=ω;have Am:u/P<=u:=Int.ediv_le_self _ om;have Ao:v/P<=v:=Int.ediv_le_self _ om;have φ:0<=u/P:=Int.ediv_nonneg om om;have Al:0<=v/P:=Int.ediv_nonneg om om;have χ:u/P+v/P<u+v:=by
    rcases b with h|h
    .have:u/P<u:=Int.ediv_lt_self_of_pos_of_ne_one h om;omega
    .have:v/P<v:=Int.ediv_lt_self_of_pos_of_ne_one h om;omega
   clear b;cases p:decide (0<u) with
   |true=>
    go_wp2_with fail
    go_quiet (fail)
    go_wp2;exact⟨⟨k+1,om,by rw[S.out],by rw[T.out],by rw[F.out],by rw[U.out],aC J (aY _ _)⟩,oI⟩
   |false=>
    have Ad:¬0<u:=by simpa using p
    have Ae:decide (0<v)=true:=by
     have:0<=u/P:=φ;have:u=0:=om;rw[decide_eq_true_eq];subst this;simp at χ;omega
    clear Ad;go_wp2_with fail
    go_quiet (fail)
    go_wp2;exact⟨⟨k+1,om,by rw[S.out],by rw[T.out],by rw[F.out],by rw[U.out],aC J (aY _ _)⟩,oI⟩
  .have ζ:Hid (fW P M x y=s):=by show _=_;rw[D.out];exact N.out om om
   have p:decide (0<u)=false:=by simp;omega
   have Ae:decide (0<v)=false:=by simp;omega
   clear b;go_wp2;go_ret;exact⟨by rw[ζ.out];rfl,J.out⟩
theorem J3(w:Wo)(a:Nat)(P M x y:Int)(Mq:LI)(h:GF w a P M Mq):Calls prog 333 #[.pointer a,x,y] w (kV w (fW P M x (iO P M y))):=by have B:=zh h;clear h;go_enter func333,ntmps333;go_wp2_with fail;apply(xU _ a P M y Mq B).mono;rintro e w1⟨rfl,A⟩;have F:=zh (B.on A);have D:=zh A;clear A;go_wp2_with fail;apply(xR _ a P M x _ Mq F).mono;rintro e w2⟨rfl,C⟩;have E:=zh (aC D C);clear C;go_wp2;go_ret;exact⟨rfl,E.out⟩
theorem dr{P M x y:Int}{Mq:LI}(A:cZ P M Mq)(h:inQ (aF P M) x=0):bM P M Mq x y=0:=by rw[<-KN,h];exact(dR A).zero_mul y
theorem dt{P M x y:Int}{Mq:LI}(A:cZ P M Mq)(h:inQ (aF P M) y=0):bM P M Mq x y=0:=by rw[<-O9,h];exact(dR A).mul_zero _
theorem lE(w:Wo)(a:Nat)(P M x y:Int)(Mq:LI)(h:GF w a P M Mq):Calls prog 51 #[.pointer a,x,y] w (kV w (bM P M Mq x y)):=by
 have G:=zh h;obtain⟨q,mv,u,s,gl,t,E,L,h⟩:=h;have D:=h.fld;have o:=zh D;have O:=D.1;have k:=aM P M;have hA:=uM (q:=aF P M) om x;have hB:=uM (q:=aF P M) om y;by_cases F:inQ (aF P M) x=0
 .have C:Hid (bM P M Mq x y=0):=dr D F;have W:=zh F;clear D h F hA hB O;go_enter func51,ntmps51;go_wp2_with fail;apply(kD _ a P M x Mq G).mono;rintro e w1⟨rfl,rfl⟩;rw[W.out];go_wp2_with fail;apply(kD _ a P M y Mq G).mono;rintro e w1⟨rfl,rfl⟩;go_wp2;go_ret;exact⟨by rw[C.out];rfl,bE _⟩
 by_cases H:inQ (aF P M) y=0
 .have C:Hid (bM P M Mq x y=0):=dt D H;have X:=zh H;have R:(inQ (aF P M) x==0)=false:=by simpa using F
  clear D h F H hA hB O;go_enter func51,ntmps51;go_wp2_with fail;apply(kD _ a P M x Mq G).mono;rintro e w1⟨rfl,rfl⟩;go_wp2_with fail;apply(kD _ a P M y Mq G).mono;rintro e w1⟨rfl,rfl⟩;rw[X.out];go_wp2;go_ret;exact⟨by rw[C.out];rfl,bE _⟩
 have hT:=h.tab;have Q:=h.ord;have hO:=dR D;have R:(inQ (aF P M) x==0)=false:=by simpa using F
 have l:(inQ (aF P M) y==0)=false:=by simpa using H
 have J:=O9 P M Mq x y;obtain⟨A,K⟩:∃A:Nat,inQ (aF P M) x=(A:Int):=⟨(inQ (aF P M) x).toNat,om⟩
 obtain⟨B,N⟩:∃B:Nat,inQ (aF P M) y=(B:Int):=⟨(inQ (aF P M) y).toNat,om⟩
 have U:=zh K;have V:=zh N;rw[K] at hA F R J;rw[N] at hB H l J;rw[Q] at hA hB hO;obtain⟨v,δ⟩:=hA;obtain⟨ε,ζ⟩:=hB;have I:=hT.mul hO (y:=(A:Int)) (z:=(B:Int)) ⟨om,om⟩ ⟨om,om⟩;rw[aZ8,aZ8] at I;have C:Hid (bM P M Mq x y=E ((L A 0+L B 0)%((q:Int)-1)).toNat 0):=by show _=_;rw[I.2.2];exact J.symm
 have c:A<q:=om;have d:B<q:=om;have m:=hT.rng A;have n:=hT.rng B;have Y:=h.log A c;have Z:=h.log B d;have θ:=hO.lt.pos;generalize L A 0=S at I C m Y;generalize L B 0=T at I C n Z;obtain⟨g,f,_⟩:=I;obtain⟨i,hi⟩:∃i:Nat,(S+T)%((q:Int)-1)=(i:Int):=⟨((S+T)%((q:Int)-1)).toNat,om⟩
 have j:i<q-1:=om;have b:=h.exp i j;have p:=zh hi;rw[hi,aZ8] at C;generalize E i 0=z at C b;have r:=h.c3;have c4:=h.c4;have c5:=h.c5;have ι:(q:Int)<=256:=om;clear hT Q hO K N h D f g F H O k J;have η:¬((q:Int)-1)=0:=om;go_enter func51,ntmps51;go_wp2_with fail;apply(kD _ a P M x Mq G).mono;rintro e w1⟨rfl,rfl⟩;rw[U.out];go_wp2_with fail;apply(kD _ a P M y Mq G).mono;rintro e w1⟨rfl,rfl⟩;rw[V.out];go_wp2_with fail
 go_quiet (fail)
 go_wp2;go_ret;exact⟨by rw[C.out];rfl,aY _ _⟩
def kl(w:Wo)(z A:Int)(e:Ending)(w':Wo):Prop:=e=.returned (.tuple #[z,A])/\Below w w w'
theorem qJ(w:Wo)(a:Nat)(P M x:Int)(Mq:LI)(h:GF w a P M Mq)(H:inQ (aF P M) x≠0):Calls prog 258 #[.pointer a,x] w (kl w (lY P M Mq x) 0):=by
 have N:=zh h;obtain⟨q,mv,f,c,gl,d,E,L,h⟩:=h;have F:=h.fld;have V:=F.1;have W:=aM P M;have hA:=uM (q:=aF P M) om x;have hT:=h.tab;have I:=h.ord;have hO:=dR F;have X:(inQ (aF P M) x==0)=false:=by simpa using H
 have G:=aw P M Mq x;obtain⟨A,D⟩:∃A:Nat,inQ (aF P M) x=(A:Int):=⟨(inQ (aF P M) x).toNat,om⟩
 have K:=zh D;rw[D] at hA H X G;rw[I] at hA hO;obtain⟨g,j⟩:=hA;have C:=hT.inv hO (y:=(A:Int)) ⟨om,om⟩ (hO.inv_lt _);rw[aZ8] at C;have B:Hid (lY P M Mq x=E (((q:Int)-1-L A 0)%((q:Int)-1)).toNat 0):=by show _=_;rw[C.2.2];exact G.symm
 have R:A<q:=om;have Y:=hT.rng A;have O:=h.log A R;have l:=hO.lt.pos;generalize L A 0=J at C B Y O;obtain⟨T,S,_⟩:=C;obtain⟨i,hi⟩:∃i:Nat,((q:Int)-1-J)%((q:Int)-1)=(i:Int):=⟨(((q:Int)-1-J)%((q:Int)-1)).toNat,om⟩
 have U:i<q-1:=om;have Q:=h.exp i U;have Z:=zh hi;rw[hi,aZ8] at B;generalize E i 0=z at B Q;have b:=h.c3;have c4:=h.c4;have c5:=h.c5;have m:(q:Int)<=256:=om;clear hT I hO D h F S T H V W G;have k:¬((q:Int)-1)=0:=om;go_enter func258,ntmps258;go_wp2_with fail;apply(kD _ a P M x Mq N).mono;rintro e w1⟨rfl,rfl⟩;rw[K.out];go_wp2_with fail
 go_quiet (fail)
 go_wp2;go_ret2;exact⟨by rw[B.out];rfl,aY _ _⟩
theorem SK(w:Wo)(P M:Int)(mv lv:Va)(Mq:LI)(C:SI w mv Mq)(F:¬cZ P M Mq):
 Calls prog 111 #[.agg #[P,M,mv],lv] w (ie w):=by
 have E:=zh C;clear C;have A:=zh (dM.mk' w P M mv);go_enter func111,ntmps111;go_wp2_with fail;generalize hw0:w.alloc (.cells #[P,M,mv] 24)=w0 at*;have c0:=A.c0;have c1:=A.c1;have c2:=A.c2;go_wp2_with fail;apply(js _ P M mv Mq (E.below A.bel zr) F).mono;rintro e w1⟨rfl,B⟩;have D:=zh (aC A.bel B);clear B;go_wp2;go_ret2;exact⟨rfl,D.out⟩
def kj(w:Wo)(P M:Int)(Mq:LI)(A:Int)(e:Ending)(w':Wo):Prop:=
 (A=0->ip w P M Mq e w')/\(A≠0->e=.returned (.tuple #[.pointer none,A])/\Below w w w')
theorem DD(w:Wo)(P M A:Int)(mv rv:Va)(gl:Nat)(Mq:LI)(rows:LL)(R:SI w mv Mq)(S:SS w rv rows)(Z:cZ P M Mq)
 (O:w.cell? gl=some (A:aV))(Q:w.cell? (gl 1 none)=some rv):
 Calls prog 111 #[.agg #[P,M,mv],.slice gl 1 1] w (kj w P M Mq (sO (aF P M) A rows)):=by
 have V:=zh R;have J:=zh S;clear R S;obtain⟨W,b,rfl,_⟩:=J.out;have B:=zh (dM.mk' w P M mv);have T:=zh O;have U:=zh Q;clear O Q;go_enter func111,ntmps111;go_wp2_with fail;generalize hw0:w.alloc (.cells #[P,M,mv] 24)=w0 at*;have c0:=B.c0;have c1:=B.c1;have c2:=B.c2;go_wp2_with fail;apply(oO _ P M mv Mq (V.below B.bel zr) Z).mono;rintro e w1⟨a,rfl,N,K⟩;have I:=zh (N.mono B.bel.size);have D:=zh (aC B.bel K);clear K N c0 c1 c2;go_wp2;go_loopw [20] (fun i wr=>(i=.int .i64 0/\Hid (wr=w1))\/(i=.int .i64 1/\Hid (sO (aF P M) A rows=0)/\Hid (Below w1 w1 wr))) (fun i _=>(1-intOf i).toNat)
 .exact .inl ⟨rfl,rfl⟩
 .
  rcases hrel with⟨rfl,G⟩|⟨rfl,E,G⟩
  .obtain rfl:=G.out;have X:=aE D.out T.out;have Y:=aE D.out U.out;have F:=zh (aH wr (.cells #[A,.slice W rows b] 74));go_wp2_with fail;apply(wJ _ a P M A Mq _ rows (I.on F).out ((J.below D zr).below F zr)).mono;rintro e d⟨rfl,L⟩;have H:=zh (aC F L);clear L F X Y;by_cases C:sO (aF P M) A rows=0
   .rw[C];have E:=zh C;clear C;go_wp2;exact⟨.inr ⟨rfl,E,H⟩,oI⟩
   .have c:(sO (aF P M) A rows !=0)=true:=by rw[eC];exact C
    have E:=zh C;clear C;go_wp2;go_ret2;exact⟨fun h=>aB h E,fun _=>⟨rfl,aC D H⟩⟩
  .go_wp2;go_ret2;refine⟨fun _=>⟨a,rfl,(I.mono zr).on G,aC D G⟩,fun h=>aB E.out h⟩
theorem CR(w:Wo)(a:Nat)(P M:Int)(Mq:LI)(h:GF w a P M Mq):Calls prog 22 #[.pointer a] w (fun e w'=>e=.returned (.int .i64 (aF P M))/\w=w'):=by obtain⟨q,mv,C,A,gl,B,E,L,h⟩:=h;have c3:=h.c3;rw[h.ord];clear h;go_enter func22,ntmps22;go_wp2;go_ret;exact⟨rfl,rfl⟩
theorem YP(n:Nat)(h:n<=1000000)(w:Wo):(Instr.makeSlice 25 (z0:aV) (n:aV)).run prog w=
 .ok (.slice w 0 n) (w.alloc (.cells (madeCells #[()] n) 22)):=by
 obtain⟨D,hi,A,B,C⟩:=info_parts infoInts;have:=run_make (P:=prog) w 25 22 D (():aV) underlying25 hi A .i64 .i64 0 n (Int.le_refl _) om (by rw[C];omega) om;simp only[aZ8,Int.toNat_zero,B,Nat.mul_one] at this;exact this
theorem OS.made0{B:Nat}{X:Nat->Prop}(w:Wo)(n:Nat)(hB:B<=w)(h:n<=1000000):OS B X (w.alloc (.cells (madeCells #[()] n) 22)) (.slice w 0 n) []:=
 ⟨[],World.ownsRow_made w _ n hB (by unfold maxLen;omega) (by simp[size_madeCells]),fun i hi=>aB hi sM⟩
def GM(q:Nat)(r:Int):Prop:=∃k:Nat,(k:Int)<=r/\64<fR q k
theorem OZ{q:Nat}(hq:2<=q)(A:q<=256){k:Nat}(h:fR q k<=64):q^k<=16384/\k<=64:=by
 refine⟨?_,aZ6 (G4 hq k) h⟩;cases k with
 |zero=>simp
 |succ k=>rw[fR] at h;rw[Nat.pow_succ];have:q^k*q<=64*256:=Nat.mul_le_mul om A;omega
theorem ju(w:Wo)(P M r:Int)(mv:Va)(Mq:LI)(q:Nat)(h:SI w mv Mq)(F:cZ P M Mq)(u:1<=r)(W:I64 r)(hq:aF P M=(q:Int))(E:GM q r):
 Calls prog 287 #[.agg #[P,M,mv],r] w (E0 w [] 4):=by
 have N:=zh h;clear h;have A:=zh (dM.mk' w P M mv);have Q:=zh hq;have T:=dB F.1;have V:=aM P M;have U:2<=q:=om;have I:q<=256:=om;obtain⟨X,v⟩:=W;have K:=zh E;clear hq E T V X;go_enter func287,ntmps287;go_wp2_with fail;generalize hw0:w.alloc (.cells #[P,M,mv] 24)=w0 at*;have c0:=A.c0;have c1:=A.c1;have c2:=A.c2;go_wp2_with fail;apply(oO _ P M mv Mq (N.below A.bel zr) F).mono;rintro e w1⟨a,rfl,G,D⟩;have L:=zh G.out;have J:=zh (aC A.bel D);clear D G;go_wp2_with fail;apply(CR _ a P M Mq L).mono;rintro e w2⟨rfl,rfl⟩;rw[Q.out];go_wp2;go_loop [9,10,28] (fun n p i=>∃k:Nat,(k:Int)<=r/\n=.int .i64 (fR q k:Nat)/\p=.int .i64 (q^k:Nat)/\i=(k:aV)/\fR q k<=64) (fun _ _ i=>65-(intOf i).toNat)
 .exact⟨0,om,rfl,by simp,rfl,by simp[fR]⟩
 .
  obtain⟨k,hk,rfl,rfl,rfl,S⟩:=hrel;have H:=OZ U I S;have C:Hid (fR q (k+1)=fR q k+q^k):=rfl;have O:Hid (q^(k+1)=q^k*q):=Nat.pow_succ q k;by_cases l:(k:Int)<r
  .have c:0<=q^k*q:=aZ5 _;have g:q^k*q<=16384*256:=Nat.mul_le_mul H.1 I;generalize hpk:q^k=B at*;have Z:=zh hpk;clear hpk;generalize hgk:fR q k=gk at*;have Y:=zh hgk;clear hgk;obtain⟨s,t⟩:=H;by_cases b:64<gk+B
   .have R:(64:Int)<(gk:Int)+(B:Int):=om
    go_wp2;go_ret2;exact E0.nil w 4 J.out
   .have R:¬(64:Int)<(gk:Int)+(B:Int):=om;have m:0<=(B:Int)*(q:Int):=by rw[<-Int.natCast_mul];omega
    have o:(B:Int)*(q:Int)<=16384*256:=by rw[<-Int.natCast_mul];omega
    go_wp2;go_round
    .exact⟨k+1,om,by rw[C.out];push_cast;rfl,by rw[O.out];push_cast;rfl,pC,oA C.out⟩
    .simp[intOf];omega
  .exfalso;obtain⟨j,d,f⟩:=K.out;have:=RU (q:=q) (show j<=k from om);omega
theorem TI{q r s:Nat}:(rV q (s+1)).map (cS q r)=(rV q s).map (cS q r)++((List.range (q^s)).map fun t=>q^s+t).map (cS q r):=by rw[rV,List.map_append]
theorem MV{q r s t:Nat}:(rV q s).map (cS q r)++((List.range (t+1)).map fun t=>q^s+t).map (cS q r)=((rV q s).map (cS q r)++((List.range t).map fun t=>q^s+t).map (cS q r))++[cS q r (q^s+t)]:=by rw[List.range_succ,List.map_append,List.map_append,List.append_assoc];rfl
theorem UN{q r n:Nat}(hq:0<q)(k:Nat):0<=(cS q r n).getD k 0/\(cS q r n).getD k 0<(q:Int):=by
 by_cases h:k<r
 .unfold cS;rw[aK h];have:=Nat.mod_lt (n/q^(r-1-k)) hq;omega
 .rw[bG (by rw[kS];omega)];omega
theorem TB(w:Wo)(P M r:Int)(mv:Va)(Mq:LI)(q:Nat)(h:SI w mv Mq)(Ax:cZ P M Mq)(Ci:1<=r)(hq:aF P M=(q:Int))(Av:¬GM q r):
 Calls prog 287 #[.agg #[P,M,mv],r] w (E0 w (wO q r.toNat) 0):=by
 have Bl:=zh h;clear h;have S:=zh (dM.mk' w P M mv);have Bp:=zh hq;have Ce:=dB Ax.1;have Cf:=aM P M;have F:2<=q:=om;have Bd:q<=256:=om;obtain⟨R,rfl⟩:∃R:Nat,r=(R:Int):=⟨r.toNat,om⟩
 rw[aZ8];have Q:Hid (∀k,k<=R->fR q k<=64):=aG fun k hk=>Nat.le_of_not_lt fun h=>Av ⟨k,om,h⟩;have Cp:1<=R:=om;have Cq:R<=64:=aZ6 (G4 F R) (Q R zr);clear hq Av Ce Cf Ci;go_enter func287,ntmps287;go_wp2_with fail;generalize hw0:w.alloc (.cells #[P,M,mv] 24)=w0 at*;have c0:=S.c0;have c1:=S.c1;have c2:=S.c2;go_wp2_with fail;apply(oO _ P M mv Mq (Bl.below S.bel zr) Ax).mono;rintro e w1⟨a,rfl,Az,Au⟩;have Bj:=zh Az.out;have χ:=zh (aC S.bel Au);clear Au Az;go_wp2_with fail;apply(CR _ a P M Mq Bj).mono;rintro e w2⟨rfl,rfl⟩;rw[Bp.out];clear c0 c1 c2;go_wp2;go_loop [9,10,28] (fun n p i=>∃k:Nat,k<=R/\n=.int .i64 (fR q k:Nat)/\p=.int .i64 (q^k:Nat)/\i=(k:aV)) (fun _ _ i=>R-(intOf i).toNat)
 .exact⟨0,om,rfl,by simp,rfl⟩
 .
  obtain⟨k,hk,rfl,rfl,rfl⟩:=hrel;have σ:=OZ F Bd (Q k hk);have ζ:Hid (fR q (k+1)=fR q k+q^k):=rfl;have Aj:Hid (q^(k+1)=q^k*q):=Nat.pow_succ q k;have Cv:=Q.out k hk;by_cases π:k<R
  .have Cw:0<=q^k*q:=aZ5 _;have Db:q^k*q<=16384*256:=Nat.mul_le_mul σ.1 Bd;have Bx:=Q.out (k+1) om;rw[ζ.out] at Bx;generalize hpk:q^k=φ at*;have Co:=zh hpk;clear hpk;generalize hgk:fR q k=gk at*;have Ae:=zh hgk;clear hgk;obtain⟨Dh,Di⟩:=σ;have Cr:¬(64:Int)<(gk:Int)+(φ:Int):=om;have De:0<=(φ:Int)*(q:Int):=by rw[<-Int.natCast_mul];omega
   have Df:(φ:Int)*(q:Int)<=16384*256:=by rw[<-Int.natCast_mul];omega
   go_wp2;go_round
   .exact⟨k+1,om,by rw[ζ.out];push_cast;rfl,by rw[Aj.out];push_cast;rfl,pC⟩
   .simp[intOf];omega
  .obtain rfl:R=k:=om;clear ζ Aj σ;generalize hgk:fR q R=gk at*;have Ae:=zh hgk;clear hgk;have Cc:=fun(w:Wo)=>YP gk om w;have Dg:=fun(w:Wo)=>dX R om w;have An:=zh (OS.made0 (B:=w1.heap.size) (X:=fun _=>False) w1 gk zr om);have ψ:=zh (aH w1 (.cells (madeCells #[()] gk) 22));go_wp2_with fail;clear Cc;go_loopw [11,12] (fun v l wr=>∃(s:Nat) (A:OA) (G:Nat),s<=R/\v=.slice A (fR q s) G/\l=.int .i64 ((R:Int)-1-(s:Int))/\Hid (OS w1 (fun _=>False) wr v ((rV q s).map (cS q R)))/\Hid (Below w1 w1 wr)) (fun _ l _=>(intOf l+1).toNat)
   .exact⟨0,_,_,om,rfl,by simp,An,ψ⟩
   .
    clear An ψ;obtain⟨s,A,G,Dj,rfl,rfl,E,J⟩:=hrel;by_cases Cj:s<R
    .obtain⟨l,Bc⟩:∃l:Nat,(R:Int)-1-(s:Int)=(l:Int):=⟨R-1-s,om⟩
     have Dd:l+s+1=R:=om;rw[Bc];have Af:Hid (l=R-1-s):=aG (show l=R-1-s from om);obtain⟨g,H⟩:=xE wr.heap.size;have d:=zh (RI.made wr R);have Bv:=d.cell l (by simp;omega);have Bw:=d.frozen l;have Da:(0:Int)<=(l:Int):=om;have At:(wr.alloc (.cells (madeCells #[z0] R) 3)).setCell ⟨wr.heap.size,l,none⟩ (.int .i64 1)=wr.alloc (.cells ((madeCells #[z0] R).setIfInBounds l (.int .i64 1)) 3):=World.setCell_alloc_at _ _ _ _ _ rfl;have η:Hid (RI (wr.alloc (.cells ((madeCells #[z0] R).setIfInBounds l (.int .i64 1)) 3)) wr (cS q R (q^s))):=by have:=d.set l 1;rw[At,Af.out,UO F Cj,<-Af.out] at this;exact this
     have y:=zh (aH wr (.cells ((madeCells #[z0] R).setIfInBounds l (.int .i64 1)) 3));clear Bc At;go_wp2_with fail;clear Bv Bw d;have K:Hid ((Value.slice A (fR q s) G).ownBlock≠some g):=aG fun e=>by have:=(E.lt e).2;omega
     have Ap:Hid (OS w1 (fun x=>x=g) (wr.alloc (.cells ((madeCells #[z0] R).setIfInBounds l (.int .i64 1)) 3)) (.slice A (fR q s) G) ((rV q s).map (cS q R))):=(E.names (Y:=fun x=>x=g) fun x τ e=>om).below y.out;have Ab:=zh (aC J (y.mono zr));have Ba:w1<=g:=by have:=J.size;omega
     generalize hwg:wr.alloc (.cells ((madeCells #[z0] R).setIfInBounds l (.int .i64 1)) 3)=Dk at*;rw[<-H] at η|-;clear hwg H y;have Bz:=Q.out (s+1) om;have δ:Hid (fR q (s+1)=fR q s+q^s):=rfl;rw[δ.out] at Bz;have Cd:0<q^s:=Nat.pow_pos om;clear E;go_loopw [11] (fun v wr=>∃(t:Nat) (A:OA) (G:Nat),t<q^s/\v=.slice A (fR q s+t) G/\Hid (OS w1 (fun x=>x=g) wr v ((rV q s).map (cS q R)++((List.range t).map fun t=>q^s+t).map (cS q R)))/\Hid (v.ownBlock≠some g)/\Hid (RI wr g (cS q R (q^s+t)))/\Hid (Below w1 w1 wr)) (fun v _=>fR q (s+1)-PO v)
     .exact⟨0,_,_,Cd,rfl,by simpa using Ap,K,η,Ab⟩
     .
      clear Ap K η Ab;obtain⟨t,A,G,Be,rfl,E,K,b,J⟩:=hrel;have μ:Hid (SI wr (.slice g R R) (cS q R (q^s+t))):=aG (by have:=b.si (by rw[kS];omega) (fun k=>by have:=UN (r:=R) (n:=q^s+t) (show 0<q from om) k;exact I64.of_small om om);rw[kS] at this;exact this);go_wp2_with fail;apply(iH _ _ _ μ).mono;rintro e I⟨u,rfl,N,m⟩;obtain⟨C,D,rfl⟩:=N.form';rw[kS] at N|-;have As:Hid (0<(cS q R (q^s+t)).length->∀L,(Value.slice C R D).ownBlock=some L->(Value.slice A (fR q s+t) G).ownBlock≠some L/\¬L=g):=aG fun _ L Ay=>⟨fun e=>by have Br:=(N.lt Ay).1;have Bs:=(E.lt e).2;omega,fun e=>by have Br:=(N.lt Ay).1;have Bs:=b.lt;omega⟩
      have Aq:Hid (SI I (.slice C R D) (cS q R (q^s+t))):=N.si (by rw[kS];omega) (SI.wfs μ);have Ao:=zh (E.below m);have θ:=zh (b.belowS m);have o:=zh (aC J m);have Ac:Hid ((I.alloc (.cells #[.slice C R D] 22)).cell? I.heap.size=some (.slice C R D)):=(Blk.new I 22 [.slice C R D]).cell 0;have ν:Hid (w1.heap.size<=(I.alloc (.cells #[.slice C R D] 22)).heap.size):=aG (by have:=o.size;rw[World.size_alloc];omega);have Ag:Hid (((rV q s).map (cS q R)++((List.range t).map fun t=>q^s+t).map (cS q R)).length+1<=4398046511104):=aG (by simp[qR];omega);have κ:=zh (Ao.alloc (.cells #[.slice C R D] 22));have Ar:=zh (Aq.below (aH I (.cells #[.slice C R D] 22)) zr);have Ak:=zh (θ.alloc (.cells #[.slice C R D] 22));have ω:=zh (aC o (aH I (.cells #[.slice C R D] 22)));have Cu:=θ.lt;clear N m;go_wp2_with (at_builtin;go_loud (refine iB rfl _ _ rfl w1 (fun x=>x=g) _ _ rfl κ.out I 1 _ _ rfl Ac Ar As Ag ν ?_);(intro Cm Bh ρ H V);go_loud (rw[<-MV] at ρ;have Ah:=zh ρ;have Al:=zh (Ak.grown H (fun e=>K.out e.symm));have Aa:=zh (κ.bgrown ω ν H);have ε:Hid (Cm.ownBlock≠some g):=aG (fun e=>V.elim (fun h=>K.out (h▸e)) (fun h=>(by rw[h,World.size_alloc] at e;have:=aZ0 e;omega)));clear ρ H V))
      obtain⟨O,U,V⟩:=Ah.form;rw[aZ1,aY7,aY7,aY7,List.length_range,qR] at V;subst V;clear Ao κ θ Ak o ω Ac ν Ag Ar Aq As μ E K b J;have Am:Hid (RI Bh g (cS q R ((q^s+t)/q^0*q^0))):=by rw[Nat.pow_zero,Nat.div_one,Nat.mul_one];exact Al
      have Bb:(R:Int)-1=((R-1:Nat):Int):=om;have Bq:=zh Aa.size;go_loopw [14] (fun i wr=>∃(c j:Nat),j+c+1=R/\c<=s/\i=(j:aV)/\Hid ((q^s+t)%q^c=q^c-1)/\Hid (RI wr g (cS q R ((q^s+t)/q^c*q^c)))/\Hid (Bh.grownBy wr (some g))) (fun i _=>(intOf i).toNat)
      .exact⟨0,R-1,om,om,by rw[Bb],aG (by rw[Nat.pow_zero,Nat.mod_one]),Am,World.grownBy.refl _ _⟩
      .
       clear Am Al;obtain⟨c,j,Cz,Cs,rfl,Z,T,z⟩:=hrel;have W:Hid (j=R-1-c):=aG (show j=R-1-c from om);have Ai:Hid (OS w1 (fun x=>x=g) wr (.slice O (fR q s+(t+1)) U) ((rV q s).map (cS q R)++((List.range (t+1)).map fun t=>q^s+t).map (cS q R))):=aG (Ah.grown z fun L e=>(by obtain rfl:=aZ0 e;exact⟨ε.out,rfl⟩));have Ad:Hid (Below w1 w1 wr):=aG (Aa.grown z Bq fun k e=>(by obtain rfl:=aZ0 e;exact Ba));have Cx:=T.lt;clear Bb;by_cases π:c<s
       .have Cb:l<j:=om;have Dc:(l:Int)<(j:Int):=om;have Cy:j<R:=om;have Ca:((j:Int)==(l:Int))=false:=by rw[eA];omega
        have Aw:=T.cell j (by rw[kS];omega);have Ct:=T.frozen j;have ξ:=ZJ (a:=(q^s+t)/q^c) (r:=R) F (show c<R from om);rw[<-W.out] at ξ;rw[ξ] at Aw;have Cl:=Nat.mod_lt ((q^s+t)/q^c) (show 0<q from om);generalize τ:(q^s+t)/q^c%q=x at Aw Cl;have f:=zh τ;clear τ ξ;by_cases Bg:x+1=q
        .have Bu:((x:Int)==(q:Int)-1)=true:=by rw[eD];omega
         have ι:Hid (RI (wr.setCell ⟨g,j,none⟩ (z0:aV)) g (cS q R ((q^s+t)/q^(c+1)*q^(c+1)))):=aG (by have:=T.set j 0;rw[W.out,OC F om,<-W.out,Nat.div_div_eq_div_mul,<-Nat.pow_succ] at this;exact this);have Bm:Hid ((q^s+t)%q^(c+1)=q^(c+1)-1):=aG (QH F Z (oA f.out));have Bk:=zh (aS (p:=⟨g,j,none⟩) z (.inl rfl) (z0:aV));clear Bg;go_wp2;exact⟨⟨c+1,j-1,om,om,by congr 1;omega,Bm,ι,Bk⟩,oI⟩
        .have Bu:((x:Int)==(q:Int)-1)=false:=by rw[eA];omega
         have ι:Hid (RI (wr.setCell ⟨g,j,none⟩ (.int .i64 ((x:Int)+1))) g (cS q R (q^s+(t+1)))):=aG (by have:=T.set j ((x:Int)+1);have e:=gt (r:=R) (a:=(q^s+t)/q^c) F (show c<R from om) (oA f.out);rw[f.out,<-W.out,JE F Z.out] at e;push_cast at e;rw[e] at this;exact this);have Ck:t+1<q^s:=UB F π Be (oA f.out) Z.out;have Bn:Hid (OS w1 (fun x=>x=g) (wr.setCell ⟨g,j,none⟩ (.int .i64 ((x:Int)+1))) (.slice O (fR q s+(t+1)) U) ((rV q s).map (cS q R)++((List.range (t+1)).map fun t=>q^s+t).map (cS q R))):=aG (Ai.grown (aU wr g j _) fun L e=>(by obtain rfl:=aZ0 e;exact⟨ε.out,rfl⟩));have Bi:=zh (Ad.setCell (p:=⟨g,j,none⟩) Ba (.int .i64 ((x:Int)+1)));clear Bg;go_wp2;exact⟨⟨t+1,O,U,Ck,rfl,Bn,ε,ι,Bi⟩,by simp only[PO];rw[δ.out];omega⟩
       .obtain rfl:s=c:=om;obtain rfl:j=l:=om;have Ca:((j:Int)==(j:Int))=true:=by simp
        have Cb:¬j<j:=om;have Bf:=W3 Be Z.out;have Bo:Hid (OS w1 (fun _=>False) wr (.slice O (fR q s+(t+1)) U) ((rV q (s+1)).map (cS q R))):=aG (by have Bt:=Ai.names (Y:=fun _=>False) (fun _ _ h=>h.elim);rw[TI,show List.range (q^s)=List.range (t+1) by rw[Bf]];exact Bt);clear π;go_wp2;exact⟨⟨s+1,O,U,om,by rw[δ.out,Bf],by congr 1;omega,Bo,Ad⟩,oI⟩
    .obtain rfl:R=s:=om
     go_wp2;go_ret2;refine⟨_,rfl,E.ss (by rw[aY7,qR,Ae.out];omega),fun g H=>?_,aC χ J⟩;exact aZ6 χ.size (E.lt H).1
