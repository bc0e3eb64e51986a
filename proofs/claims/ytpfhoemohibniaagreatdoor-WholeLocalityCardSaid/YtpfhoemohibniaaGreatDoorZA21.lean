/- Texts of a claim, merged. -/
import Derived.Test.YtpfhoemohibniaaGreatDoorZA11
import Derived.Test.YtpfhoemohibniaaGreatDoorZA19
set_option maxRecDepth 100000
set_option linter.unusedVariables false
set_option maxHeartbeats 32000000
namespace Go.Proofs.YtpfhoemohibniaaGreatDoor
open Go.RowKit
theorem xR(w:World)(a:Nat)(P M x:Int)(Mod:LI)(h:GF w a P M Mod):Calls Tryz.prog 154 #[.pointer (some ⟨a,0,none⟩),.int .i64 x] w (fun e w'=>e=.returned (.bool (isB P M x))/\w=w'):=by
 obtain⟨q,mv,H,F,I,G,E,L,h⟩:=h;have c3:=h.c3;have A:Hid (isB P M x=(decide (0<=x)&&decide (x<(q:Int)))):=by show _=_;unfold isB;rw[h.ord]
 clear h;by_cases D:0<=x
 .have C:decide (0<=x)=true:=by simpa using D
  rw[C,Bool.true_and] at A;by_cases hq:x<(q:Int)
  .have B:decide (x<(q:Int))=true:=by simpa using hq
   rw[B] at A;go_enter Tryz.func154,Tryz.ntmps154;go_wp2_with fail;go_ret;exact⟨by rw[A.out];rfl,rfl⟩
  .have B:decide (x<(q:Int))=false:=by simpa using hq
   rw[B] at A;go_enter Tryz.func154,Tryz.ntmps154;go_wp2_with fail;go_ret;exact⟨by rw[A.out];rfl,rfl⟩
 .have C:decide (0<=x)=false:=by simpa using D
  rw[C,Bool.false_and] at A;go_enter Tryz.func154,Tryz.ntmps154;go_wp2_with fail;go_ret;exact⟨by rw[A.out];rfl,rfl⟩
theorem uU(w:World)(a:Nat)(P M:Int)(Mod l:LI)(v:Value)(h:GF w a P M Mod)(C:SI w v l):
  Calls Tryz.prog 112 #[.pointer (some ⟨a,0,none⟩),v] w (fun e w'=>e=.returned (.int .i64 (cM (aC P M) l))/\w=w'):=by
 obtain⟨A,c,rfl,C⟩:=C;have hn:=C.len;have K:=zh C;clear C;have F:=zh h;clear h;go_enter Tryz.func112,Tryz.ntmps112;go_wp2_with fail;go_loop [9] (fun i=>∃k:Nat,k<=l.length/\i=.int .i64 (k:Int)/\Hid (∀j,j<k->0<=l.getD j 0/\l.getD j 0<aC P M)) (fun i=>l.length-(intOf i).toNat)
 case atStart=>exact⟨0,aZ5 _,rfl,aD fun j I=>absurd I (by omega)⟩
 case round=>
  obtain⟨k,Q,rfl,G⟩:=hrel;by_cases J:k<l.length
  .obtain⟨N,x,rfl,O,_,H⟩:=K.elt J;by_cases B:0<=x/\x<aC P M
   .have D:Hid (isB P M x=true):=uO B;have L:=zh B;clear B;go_wp2_with fail;refine(xR _ a P M x Mod F).mono ?_;rintro e w1 ⟨rfl,rfl⟩;rw[D.out];go_wp2_with fail;go_round
    case rel=>exact⟨k+1,by omega,by go_num,aD fun j I=>by
     by_cases e:j=k
     .subst e;rw[H.out];exact L.out
     .exact G.out j (by omega)⟩
    case measure=>simp[intOf];omega
   .have D:Hid (isB P M x=false):=rU B;have E:Hid (cM (aC P M) l=2):=uH J (by rw[H.out];exact B);clear B;go_wp2_with fail;refine(xR _ a P M x Mod F).mono ?_;rintro e w1 ⟨rfl,rfl⟩;rw[D.out];go_wp2_with fail;go_ret;exact⟨by rw[E.out];rfl,rfl⟩
  .obtain rfl:l.length=k:=by omega
   have E:Hid (cM (aC P M) l=0):=mV G.out;go_wp2_with fail;go_ret;exact⟨by rw[E.out];rfl,rfl⟩
def pY(q A:Int)(rows:LL):Int:=if A<0\/256<A\/256<(rows.length:Int) then 3 else if qP A rows=true then(if vT q rows=true then 0 else 2) else 3
theorem uT{P M:Int}{Mod:LI}(B:cK P M Mod)(A:Int)(rows:LL):dK P M Mod A rows=pY (aC P M) A rows:=by unfold dK pY;rw[if_neg (by rw[jP B];decide)]
theorem VD{P M:Int}{Mod:LI}(A:¬cK P M Mod)(B:Int)(rows:LL):dK P M Mod B rows=1:=by unfold dK;rw[if_pos (by rw[dZ A];decide),dZ A]
theorem tE(w:World)(a:Nat)(P M B:Int)(Mod:LI)(g:Value)(rows:LL)(h:GF w a P M Mod)(L:SS w g rows):
  Calls Tryz.prog 167 #[.pointer (some ⟨a,0,none⟩),.agg #[.int .i64 B,g]] w (iJ w (pY (aC P M) B rows)):=by
 obtain⟨A,c,rfl,L⟩:=L;have q:=L.len;have Y:=zh (h.on (aF w (.cells #[.int .i64 B,.slice A rows.length c] 86)));clear h;have S:=zh ((show SS w (.slice A rows.length c) rows from⟨A,c,rfl,L⟩).below (aF w (.cells #[.int .i64 B,.slice A rows.length c] 86)) zr);clear L;have F:=zh (aF w (.cells #[.int .i64 B,.slice A rows.length c] 86));have Q:=zh (Blk.new w 86 [.int .i64 B,.slice A rows.length c]);obtain⟨n,hn⟩:∃n,n=rows.length:=⟨_,rfl⟩
 rw[<-hn] at S Y F Q q|-;have E:=zh hn;clear hn;have s:(w.alloc (.cells #[.int .i64 B,.slice A n c] 86)).cell? ⟨w.heap.size,0,none⟩=some (.int .i64 B):=Q.cell 0;have t:(w.alloc (.cells #[.int .i64 B,.slice A n c] 86)).cell? ⟨w.heap.size,1,none⟩=some (.slice A n c):=Q.cell 1;by_cases I:B<0\/256<B\/256<(n:Int)
 .have G:Hid (pY (aC P M) B rows=3):=by show _=_;unfold pY;rw[<-E.out,if_pos I]
  rw[G.out];by_cases N:B<0
  .have U:decide (B<0)=true:=by simpa using N
   clear I;go_enter Tryz.func167,Tryz.ntmps167;go_wp2_with fail;go_ret;exact⟨rfl,F.out⟩
  have U:decide (B<0)=false:=by simpa using N
  by_cases O:256<B
  .have V:decide (256<B)=true:=by simpa using O
   clear I;go_enter Tryz.func167,Tryz.ntmps167;go_wp2_with fail;go_ret;exact⟨rfl,F.out⟩
  have V:decide (256<B)=false:=by simpa using O
  have W:256<(n:Int):=by omega
  have d:decide (256<(n:Int))=true:=by simpa using W
  clear I;go_enter Tryz.func167,Tryz.ntmps167;go_wp2_with fail;go_ret;exact⟨rfl,F.out⟩
 have R:Hid (¬(B<0\/256<B\/256<(rows.length:Int))):=by show ¬_;rw[<-E.out];exact I
 obtain⟨N,O,W⟩:¬B<0/\¬256<B/\¬256<(n:Int):=by omega
 have U:decide (B<0)=false:=by simpa using N
 have V:decide (256<B)=false:=by simpa using O
 have d:decide (256<(n:Int))=false:=by simpa using W
 clear I;go_enter Tryz.func167,Tryz.ntmps167;go_wp2_with fail;clear U V d;generalize hw0:w.alloc (.cells #[.int .i64 B,.slice A n c] 86)=w0 at*;clear hw0;go_loop [27] (fun i=>∃k:Nat,k<=n/\i=.int .i64 (k:Int)/\Hid (∀j,j<k->((rows.getD j []).length:Int)=B)) (fun i=>(n-(intOf i).toNat))
 case atStart=>exact⟨0,aZ5 _,rfl,aD fun j D=>absurd D (by omega)⟩
 case round=>
  obtain⟨k,f,rfl,H⟩:=hrel;by_cases J:k<n
  .obtain⟨m,l,o,x,rfl,p,b,K⟩:=S.eltA (k:=k) (by rw[<-E.out];exact J);by_cases C:(x.length:Int)=B
   .have r:(((x.length:Nat):Int) !=B)=false:=by rw[bne_eq_false_iff_eq];exact C
    have T:=zh C;clear C;go_wp2_with fail;go_round
    case rel=>exact⟨k+1,by omega,by go_num,aD fun j D=>by
     by_cases e:j=k
     .subst e;rw[K.out];exact T.out
     .exact H.out j (by omega)⟩
    case measure=>simp[intOf];omega
   .have r:(((x.length:Nat):Int) !=B)=true:=by rw[bne_iff_ne];exact C
    have G:Hid (pY (aC P M) B rows=3):=by show _=_;unfold pY;rw[if_neg R.out,if_neg];rw[show qP B rows=false from xN (k:=k) (by rw[<-E.out];exact J) (by rw[K.out];simpa using C)];decide
    clear C;go_wp2_with fail;go_ret;exact⟨by rw[G.out];rfl,F.out⟩
  .obtain rfl:n=k:=by omega
   have Z:Hid (qP B rows=true):=iT fun j D=>by have:=H.out j (by rw[E.out];exact D);simpa using this
   clear J f H;go_wp2_with fail;go_loop [40] (fun i=>∃k:Nat,k<=n/\i=.int .i64 (k:Int)/\Hid (∀j,j<k->cM (aC P M) (rows.getD j [])=0)) (fun i=>(n-(intOf i).toNat))
   case atStart=>exact⟨0,aZ5 _,rfl,aD fun j D=>absurd D (by omega)⟩
   case round=>
    obtain⟨k,f,rfl,H⟩:=hrel;by_cases J:k<n
    .obtain⟨m,l,o,x,rfl,p,b,K⟩:=S.eltA (k:=k) (by rw[<-E.out];exact J);go_wp2_with fail;refine(uU _ a P M Mod x _ Y b.si).mono ?_;rintro e w2 ⟨rfl,rfl⟩;by_cases C:cM (aC P M) x=0
     .rw[C];have T:=zh C;clear C;go_wp2_with fail;go_round
      case rel=>exact⟨k+1,by omega,by go_num,aD fun j D=>by
       by_cases e:j=k
       .subst e;rw[K.out];exact T.out
       .exact H.out j (by omega)⟩
      case measure=>simp[intOf];omega
     .have X:cM (aC P M) x=2:=(qJ _ _).resolve_left C;have G:Hid (pY (aC P M) B rows=2):=by
       show _=_;unfold pY;rw[if_neg R.out,if_pos Z.out,if_neg];rw[show vT (aC P M) rows=false from xN (k:=k) (by rw[<-E.out];exact J) (by rw[K.out,X];rfl)];decide
      rw[X];clear C X;go_wp2_with fail;go_ret;exact⟨by rw[G.out];rfl,F.out⟩
    .obtain rfl:n=k:=by omega
     have G:Hid (pY (aC P M) B rows=0):=by show _=_;unfold pY;rw[if_neg R.out,if_pos Z.out,if_pos];exact iT fun j D=>by have:=H.out j (by rw[E.out];exact D);simpa using this
     go_wp2_with fail;go_ret;exact⟨by rw[G.out];rfl,F.out⟩
theorem iH(w:World)(a:Nat)(P M x:Int)(Mod:LI)(h:GF w a P M Mod):Calls Tryz.prog 88 #[.pointer (some ⟨a,0,none⟩),.int .i64 x] w (fun e w'=>e=.returned (.int .i64 (inQ (aC P M) x))/\w=w'):=by
 have D:=zh h;clear h;by_cases A:0<=x/\x<aC P M
 .have B:Hid (isB P M x=true):=uO A;have C:Hid (inQ (aC P M) x=x):=by show _=_;unfold inQ;rw[if_pos A]
  clear A;go_enter Tryz.func88,Tryz.ntmps88;go_wp2_with fail;refine(xR _ a P M x Mod D).mono ?_;rintro e w1 ⟨rfl,rfl⟩;rw[B.out];go_wp2_with fail;go_ret;exact⟨by rw[C.out];rfl,rfl⟩
 .have B:Hid (isB P M x=false):=rU A;have C:Hid (inQ (aC P M) x=0):=by show _=_;unfold inQ;rw[if_neg A]
  clear A;go_enter Tryz.func88,Tryz.ntmps88;go_wp2_with fail;refine(xR _ a P M x Mod D).mono ?_;rintro e w1 ⟨rfl,rfl⟩;rw[B.out];go_wp2_with fail;go_ret;exact⟨by rw[C.out];rfl,rfl⟩
theorem rT{q:Int}(hq:0<q)(x:Int):0<=inQ q x/\inQ q x<q:=by unfold inQ;split<;>omega
theorem zB{P M x:Int}(A:aC P M≠0)(C:0<=x)(hq:x<aC P M):x/P^M.toNat=0:=by obtain⟨_,_,_,_,_,B⟩:=bN A;rw[B] at hq;exact Int.ediv_eq_zero_of_lt C hq
theorem xU{d t P:Int}(B:0<=d)(C:d<=256)(A:0<=t)(E:t<=256):0<=d*t/\d*t<=65536:=by refine⟨Int.mul_nonneg B A,?_⟩;have D:d*t<=256*t:=Int.mul_le_mul_of_nonneg_right C A;omega
theorem R4{P A:Int}(B:2<=P){k m:Nat}(h:A/P^k=0):∀i,k<=i->i<m->ndg P A i=0:=fun i hi _=>by unfold ndg;rw[yZ B h i hi];simp
theorem P3{P A B:Int}(C:2<=P){k m:Nat}(h:A/P^k=0)(D:B/P^k=0):∀i,k<=i->i<m->adg P A B i=0:=fun i hi _=>by unfold adg;rw[yZ C h i hi,yZ C D i hi];simp
theorem nZ(w:World)(a:Nat)(P M x:Int)(Mod:LI)(h:GF w a P M Mod):Calls Tryz.prog 41 #[.pointer (some ⟨a,0,none⟩),.int .i64 x] w (iJ w (fZ P M x)):=by
 have Z:=zh h;obtain⟨q,mv,ε,z,ζ,δ,E,L,h⟩:=h;have c0:=h.c0;have K:=h.fld.1;clear h;have I:=zh (N1 (P:=P) (M:=M) x);obtain⟨B,g,η,θ,o,_⟩:=bN K;have n:=aK P M;have hA:=rT (q:=aC P M) (by omega) x;have H:=zh (zB K hA.1 hA.2);have S:Hid (∀k,k<=M.toNat->P^k<=256):=aD fun k D=>by have:=cY (show 2<=P by omega) D;omega
 obtain⟨A,J⟩:∃A,A=inQ (aC P M) x:=⟨_,rfl⟩
 rw[<-J] at I hA H;have V:=zh J;clear J;obtain⟨c,d⟩:=hA;have f:A<=256:=by omega
 have W:=zh (rR c f B);clear o n d K;obtain⟨m,hm⟩:∃m,m=M.toNat:=⟨_,rfl⟩
 rw[<-hm] at I H S;clear hm;have U:¬P=0:=by omega
 go_enter Tryz.func41,Tryz.ntmps41;go_wp2_with fail;refine(iH _ a P M x Mod Z).mono ?_;rintro e w1 ⟨rfl,rfl⟩;rw[<-V.out];go_wp2_with fail;go_loopw [1,5,6] (fun u s t wr=>∃k:Nat,k<=m/\u=.int .i64 (A/P^k)/\s=.int .i64 (gF P (ndg P A) k)/\t=.int .i64 (P^k)/\Hid (Below w.heap.size w wr)) (fun u _ _ _=>(intOf u).toNat)
 case atStart=>exact⟨0,aZ5 _,by simp,rfl,by simp,bE _⟩
 case round=>
   obtain⟨k,D,rfl,rfl,rfl,F⟩:=hrel;have X:=W.out k;have Q:Hid (A/P^(k+1)=A/P^k/P):=(nL B A k).symm;have R:Hid (P^(k+1)=P^k*P):=Int.pow_succ P k;have C:Hid (gF P (ndg P A) (k+1)=gF P (ndg P A) k+ -(A/P^k%P)%P*P^k):=by show _=_;rw[gF,ndg,Int.sub_emod_left]
   have T:=EP B (fun i=>W7 B A i) k;have r:=gC B k;have N:=S.out k D;have G:Hid (A/P^k=0->gF P (ndg P A) m=gF P (ndg P A) k):=aD fun b=>GX D (R4 B b);have O:Hid (k=m->A/P^k=0):=aD fun e=>by rw[e];exact H.out
   generalize A/P^k=u at X Q C G O|-;generalize gF P (ndg P A) k=s at C T G|-;generalize P^k=t at R C T r N|-;have y:=aE F.out c0;by_cases v:0<u
   . have μ:k<m:=by
       rcases Nat.lt_or_ge k m with h|h
       . exact h
       . have:=O.out (by omega);omega
     have σ:=Int.emod_nonneg u U;have τ:=Int.emod_lt_of_pos u (show 0<P by omega);have p:=Int.emod_nonneg (-(u%P)) U;have φ:=Int.emod_lt_of_pos (-(u%P)) (show 0<P by omega);have j:=xU (P:=P) p (by omega) (show 0<=t by omega) N;have l:=xU (P:=P) (show 0<=t by omega) N (show 0<=P by omega) g;obtain⟨ν,ξ⟩:=j;obtain⟨π,ρ⟩:=l;have κ:u/P<u:=Int.ediv_lt_self_of_pos_of_ne_one v (by omega);have ι:0<=u/P:=Int.ediv_nonneg (by omega) (by omega);go_wp2_with fail
     go_quiet (fail)
     go_wp2_with fail;exact⟨⟨k+1,by omega,by rw[Q.out],by rw[C.out],by rw[R.out],aA F (bI _ _)⟩,by simp only[intOf];omega⟩
   . have Y:Hid (fZ P M x=s):=by show _=_;rw[I.out];exact G.out (by omega)
     go_wp2_with fail;go_ret;exact⟨by rw[Y.out];rfl,F.out⟩
theorem uL(w:World)(a:Nat)(P M x y:Int)(Mod:LI)(h:GF w a P M Mod):Calls Tryz.prog 124 #[.pointer (some ⟨a,0,none⟩),.int .i64 x,.int .i64 y] w (iJ w (dT P M x y)):=by
 have K:=zh h;obtain⟨q,mv,Ai,Ag,Aj,Ah,E,L,h⟩:=h;have c0:=h.c0;have G:=h.fld.1;clear h;have D:=zh (L6 (P:=P) (M:=M) x y);obtain⟨C,τ,Ak,Al,n,l⟩:=bN G;have j:=aK P M;have hA:=rT (q:=aC P M) (by omega) x;have hB:=rT (q:=aC P M) (by omega) y;have O:=zh (zB G hA.1 hA.2);have Q:=zh (zB G hB.1 hB.2);have W:Hid (∀k,k<=M.toNat->P^k<=256):=aD fun k R=>by have:=cY (show 2<=P by omega) R;omega
 obtain⟨A,X⟩:∃A,A=inQ (aC P M) x:=⟨_,rfl⟩
 obtain⟨B,Y⟩:∃B,B=inQ (aC P M) y:=⟨_,rfl⟩
 rw[<-X] at D hA O;rw[<-Y] at D hB Q;have d:=zh X;have f:=zh Y;clear X Y;obtain⟨μ,ν⟩:=hA;obtain⟨π,ρ⟩:=hB;have ξ:A<=256:=by omega
 have σ:B<=256:=by omega
 by_cases o:P=2
 . subst o;obtain⟨H,rfl⟩:∃H:Nat,A=(H:Int):=⟨A.toNat,by omega⟩
   obtain⟨I,rfl⟩:∃I:Nat,B=(I:Int):=⟨B.toNat,by omega⟩
   have Aa:(2:Int)^M.toNat=((2^M.toNat:Nat):Int):=by push_cast;rfl
   have η:Hid (dT 2 M x y=((H^^^I:Nat):Int)):=by show _=_;rw[D.out];exact IN _ _ _ (by omega) (by omega)
   have θ:=zh (F3 H I (by omega) (by omega));clear D O Q W n l j G Aa;go_enter Tryz.func124,Tryz.ntmps124;go_wp2_with fail;refine(iH _ a 2 M x Mod K).mono ?_;rintro e w1 ⟨rfl,rfl⟩;rw[<-d.out];go_wp2_with fail;refine(iH _ a 2 M y Mod K).mono ?_;rintro e w1 ⟨rfl,rfl⟩;rw[<-f.out];go_wp2_with fail;go_ret;exact⟨by rw[η.out,<-θ.out];rfl,bE _⟩
 have Av:(P==2)=false:=by simpa using o
 have r:=zh (rR μ ξ C);have z:=zh (rR π σ C);clear n j ν ρ G l;obtain⟨m,hm⟩:∃m,m=M.toNat:=⟨_,rfl⟩
 rw[<-hm] at D O Q W;clear hm;have Z:¬P=0:=by omega
 go_enter Tryz.func124,Tryz.ntmps124;go_wp2_with fail;refine(iH _ a P M x Mod K).mono ?_;rintro e w1 ⟨rfl,rfl⟩;rw[<-d.out];go_wp2_with fail;refine(iH _ a P M y Mod K).mono ?_;rintro e w1 ⟨rfl,rfl⟩;rw[<-f.out];go_wp2_with fail;go_loopw [1,2,7,8] (fun u v s t wr=>∃k:Nat,k<=m/\u=.int .i64 (A/P^k)/\v=.int .i64 (B/P^k)/\s=.int .i64 (gF P (adg P A B) k)/\t=.int .i64 (P^k)/\Hid (Below w.heap.size w wr)) (fun u v _ _ _=>(intOf u).toNat+(intOf v).toNat)
 case atStart=>exact⟨0,aZ5 _,by simp,by simp,rfl,by simp,bE _⟩
 case round=>
   obtain⟨k,R,rfl,rfl,rfl,rfl,J⟩:=hrel;have δ:=r.out k;have ε:=z.out k;have T:Hid (A/P^(k+1)=A/P^k/P):=(nL C A k).symm;have U:Hid (B/P^(k+1)=B/P^k/P):=(nL C B k).symm;have V:Hid (P^(k+1)=P^k*P):=Int.pow_succ P k;have F:Hid (gF P (adg P A B) (k+1)=gF P (adg P A B) k+(A/P^k+B/P^k)%P*P^k):=by show _=_;rw[gF,adg,Int.emod_add_emod,Int.add_emod_emod]
   have g:=EP C (fun i=>WK C A B i) k;have Ac:=gC C k;have b:=W.out k R;have N:Hid (A/P^k=0->B/P^k=0->gF P (adg P A B) m=gF P (adg P A B) k):=aD fun ι κ=>GX R (P3 C ι κ);have S:Hid (k=m->A/P^k=0/\B/P^k=0):=aD fun e=>by rw[e];exact⟨O.out,Q.out⟩
   generalize A/P^k=u at δ T F N S|-;generalize B/P^k=v at ε U F N S|-;generalize gF P (adg P A B) k=s at F g N|-;generalize P^k=t at V F g Ac b|-;have Af:=aE J.out c0;by_cases c:0<u\/0<v
   . have Aq:k<m:=by
       rcases Nat.lt_or_ge k m with h|h
       . exact h
       . have:=S.out (by omega);omega
     have Aw:=Int.emod_nonneg u Z;have Ay:=Int.emod_lt_of_pos u (show 0<P by omega);have Ax:=Int.emod_nonneg v Z;have Az:=Int.emod_lt_of_pos v (show 0<P by omega);have Ab:=Int.emod_nonneg (u+v) Z;have Ba:=Int.emod_lt_of_pos (u+v) (show 0<P by omega);have ψ:=xU (P:=P) Ab (by omega) (show 0<=t by omega) b;have ω:=xU (P:=P) (show 0<=t by omega) b (show 0<=P by omega) τ;obtain⟨Ar,As⟩:=ψ;obtain⟨At,Au⟩:=ω;have Ao:u/P<=u:=Int.ediv_le_self _ (by omega);have Ap:v/P<=v:=Int.ediv_le_self _ (by omega);have φ:0<=u/P:=Int.ediv_nonneg (by omega) (by omega);have Am:0<=v/P:=Int.ediv_nonneg (by omega) (by omega);have χ:u/P+v/P<u+v:=by
       rcases c with h|h
       . have:u/P<u:=Int.ediv_lt_self_of_pos_of_ne_one h (by omega);omega
       . have:v/P<v:=Int.ediv_lt_self_of_pos_of_ne_one h (by omega);omega
     clear c;cases p:decide (0<u) with
     |true=>
       go_wp2_with fail
       go_quiet (fail)
       go_wp2_with fail;exact⟨⟨k+1,by omega,by rw[T.out],by rw[U.out],by rw[F.out],by rw[V.out],aA J (bI _ _)⟩,by simp only[intOf];omega⟩
     |false=>
       have Ad:¬0<u:=by simpa using p
       have Ae:decide (0<v)=true:=by
         have:0<=u/P:=φ;have:u=0:=by omega
         rw[decide_eq_true_eq];subst this;simp at χ;omega
       clear Ad;go_wp2_with fail
       go_quiet (fail)
       go_wp2_with fail;exact⟨⟨k+1,by omega,by rw[T.out],by rw[U.out],by rw[F.out],by rw[V.out],aA J (bI _ _)⟩,by simp only[intOf];omega⟩
   . have ζ:Hid (dT P M x y=s):=by show _=_;rw[D.out];exact N.out (by omega) (by omega)
     have p:decide (0<u)=false:=by simp;omega
     have Ae:decide (0<v)=false:=by simp;omega
     clear c;go_wp2_with fail;go_ret;exact⟨by rw[ζ.out];rfl,J.out⟩
theorem Q6(w:World)(a:Nat)(P M x y:Int)(Mod:LI)(h:GF w a P M Mod):Calls Tryz.prog 280 #[.pointer (some ⟨a,0,none⟩),.int .i64 x,.int .i64 y] w (iJ w (dT P M x (fZ P M y))):=by have B:=zh h;clear h;go_enter Tryz.func280,Tryz.ntmps280;go_wp2_with fail;refine(nZ _ a P M y Mod B).mono ?_;rintro e w1 ⟨rfl,A⟩;have F:=zh (B.on A);have D:=zh A;clear A;go_wp2_with fail;refine(uL _ a P M x _ Mod F).mono ?_;rintro e w2 ⟨rfl,C⟩;have E:=zh (aA D C);clear C;go_wp2_with fail;go_ret;exact⟨rfl,E.out⟩
theorem VK{P M x y:Int}{Mod:LI}(A:cK P M Mod)(h:inQ (aC P M) x=0):bO P M Mod x y=0:=by rw[<-GL,h];exact(dU A).zero_mul y
theorem VL{P M x y:Int}{Mod:LI}(A:cK P M Mod)(h:inQ (aC P M) y=0):bO P M Mod x y=0:=by rw[<-LJ,h];exact(dU A).mul_zero _
theorem mH(w:World)(a:Nat)(P M x y:Int)(Mod:LI)(h:GF w a P M Mod):Calls Tryz.prog 125 #[.pointer (some ⟨a,0,none⟩),.int .i64 x,.int .i64 y] w (iJ w (bO P M Mod x y)):=by
 have G:=zh h;obtain⟨q,mv,t,r,u,s,E,L,h⟩:=h;have D:=h.fld;have n:=zh D;have O:=D.1;have j:=aK P M;have hA:=rT (q:=aC P M) (by omega) x;have hB:=rT (q:=aC P M) (by omega) y;by_cases F:inQ (aC P M) x=0
 .have C:Hid (bO P M Mod x y=0):=VK D F;have V:=zh F;clear D h F hA hB O;go_enter Tryz.func125,Tryz.ntmps125;go_wp2_with fail;refine(iH _ a P M x Mod G).mono ?_;rintro e w1 ⟨rfl,rfl⟩;rw[V.out];go_wp2_with fail;refine(iH _ a P M y Mod G).mono ?_;rintro e w1 ⟨rfl,rfl⟩;go_wp2_with fail;go_ret;exact⟨by rw[C.out];rfl,bE _⟩
 by_cases H:inQ (aC P M) y=0
 .have C:Hid (bO P M Mod x y=0):=VL D H;have W:=zh H;have R:(inQ (aC P M) x==0)=false:=by simpa using F
  clear D h F H hA hB O;go_enter Tryz.func125,Tryz.ntmps125;go_wp2_with fail;refine(iH _ a P M x Mod G).mono ?_;rintro e w1 ⟨rfl,rfl⟩;go_wp2_with fail;refine(iH _ a P M y Mod G).mono ?_;rintro e w1 ⟨rfl,rfl⟩;rw[W.out];go_wp2_with fail;go_ret;exact⟨by rw[C.out];rfl,bE _⟩
 have hT:=h.tab;have Q:=h.ord;have hO:=dU D;have R:(inQ (aC P M) x==0)=false:=by simpa using F
 have k:(inQ (aC P M) y==0)=false:=by simpa using H
 have J:=LJ P M Mod x y;obtain⟨A,K⟩:∃A:Nat,inQ (aC P M) x=(A:Int):=⟨(inQ (aC P M) x).toNat,by omega⟩
 obtain⟨B,N⟩:∃B:Nat,inQ (aC P M) y=(B:Int):=⟨(inQ (aC P M) y).toNat,by omega⟩
 have T:=zh K;have U:=zh N;rw[K] at hA F R J;rw[N] at hB H k J;rw[Q] at hA hB hO;obtain⟨v,δ⟩:=hA;obtain⟨ε,ζ⟩:=hB;have I:=hT.mul hO (y:=(A:Int)) (z:=(B:Int)) ⟨by omega,by omega⟩ ⟨by omega,by omega⟩;rw[aZ8,aZ8] at I;have C:Hid (bO P M Mod x y=E.getD ((L.getD A 0+L.getD B 0)%((q:Int)-1)).toNat 0):=by show _=_;rw[I.2.2];exact J.symm
 have b:A<q:=by omega
 have c:B<q:=by omega
 have l:=hT.rng A;have m:=hT.rng B;have X:=h.log A b;have Y:=h.log B c;have θ:=hO.lt.pos;generalize L.getD A 0=S at I C l X;generalize L.getD B 0=lb at I C m Y;obtain⟨f,d,_⟩:=I;obtain⟨i,hi⟩:∃i:Nat,(S+lb)%((q:Int)-1)=(i:Int):=⟨((S+lb)%((q:Int)-1)).toNat,by omega⟩
 have g:i<q-1:=by omega
 have Z:=h.exp i g;have o:=zh hi;rw[hi,aZ8] at C;generalize E.getD i 0=z at C Z;have p:=h.c3;have c4:=h.c4;have c5:=h.c5;have ι:(q:Int)<=256:=by omega
 clear hT Q hO K N h D d f F H O j J;have η:¬((q:Int)-1)=0:=by omega
 go_enter Tryz.func125,Tryz.ntmps125;go_wp2_with fail;refine(iH _ a P M x Mod G).mono ?_;rintro e w1 ⟨rfl,rfl⟩;rw[T.out];go_wp2_with fail;refine(iH _ a P M y Mod G).mono ?_;rintro e w1 ⟨rfl,rfl⟩;rw[U.out];go_wp2_with fail
 go_quiet (fail)
 go_wp2_with fail;go_ret;exact⟨by rw[C.out];rfl,bI _ _⟩
def XN(w:World)(z A:Int)(e:Ending)(w':World):Prop:=e=.returned (.tuple #[.int .i64 z,.int .i64 A])/\Below w.heap.size w w'
theorem mG(w:World)(a:Nat)(P M x:Int)(Mod:LI)(h:GF w a P M Mod)(H:inQ (aC P M) x≠0):Calls Tryz.prog 170 #[.pointer (some ⟨a,0,none⟩),.int .i64 x] w (XN w (fJ P M Mod x) 0):=by
 have N:=zh h;obtain⟨q,mv,f,c,g,d,E,L,h⟩:=h;have F:=h.fld;have V:=F.1;have W:=aK P M;have hA:=rT (q:=aC P M) (by omega) x;have hT:=h.tab;have I:=h.ord;have hO:=dU F;have X:(inQ (aC P M) x==0)=false:=by simpa using H
 have G:=UV P M Mod x;obtain⟨A,D⟩:∃A:Nat,inQ (aC P M) x=(A:Int):=⟨(inQ (aC P M) x).toNat,by omega⟩
 have K:=zh D;rw[D] at hA H X G;rw[I] at hA hO;obtain⟨j,k⟩:=hA;have C:=hT.inv hO (y:=(A:Int)) ⟨by omega,by omega⟩ (hO.inv_lt _);rw[aZ8] at C;have B:Hid (fJ P M Mod x=E.getD (((q:Int)-1-L.getD A 0)%((q:Int)-1)).toNat 0):=by show _=_;rw[C.2.2];exact G.symm
 have R:A<q:=by omega
 have Y:=hT.rng A;have O:=h.log A R;have m:=hO.lt.pos;generalize L.getD A 0=J at C B Y O;obtain⟨T,S,_⟩:=C;obtain⟨i,hi⟩:∃i:Nat,((q:Int)-1-J)%((q:Int)-1)=(i:Int):=⟨(((q:Int)-1-J)%((q:Int)-1)).toNat,by omega⟩
 have U:i<q-1:=by omega
 have Q:=h.exp i U;have Z:=zh hi;rw[hi,aZ8] at B;generalize E.getD i 0=z at B Q;have b:=h.c3;have c4:=h.c4;have c5:=h.c5;have n:(q:Int)<=256:=by omega
 clear hT I hO D h F S T H V W G;have l:¬((q:Int)-1)=0:=by omega
 go_enter Tryz.func170,Tryz.ntmps170;go_wp2_with fail;refine(iH _ a P M x Mod N).mono ?_;rintro e w1 ⟨rfl,rfl⟩;rw[K.out];go_wp2_with fail
 go_quiet (fail)
 go_wp2_with fail;go_ret2;exact⟨by rw[B.out];rfl,bI _ _⟩
theorem NV(w:World)(P M:Int)(mv lv:Value)(Mod:LI)(hm:SI w mv Mod)(E:¬cK P M Mod):
  Calls Tryz.prog 111 #[.agg #[.int .i64 P,.int .i64 M,mv],lv] w (WB w):=by
 have D:=zh hm;clear hm;have A:=zh (cV.mk' w P M mv);go_enter Tryz.func111,Tryz.ntmps111;go_wp2_with fail;generalize hw0:w.alloc (.cells #[.int .i64 P,.int .i64 M,mv] 24)=w0 at*;have c0:=A.c0;have c1:=A.c1;have c2:=A.c2;go_wp2_with fail;refine(R6 _ P M mv Mod (D.below A.bel zr) E).mono ?_;rintro e w1 ⟨rfl,B⟩;have C:=zh (aA A.bel B);clear B;go_wp2_with fail;go_ret2;exact⟨rfl,C.out⟩
def XM(w:World)(P M:Int)(Mod:LI)(A:Int)(e:Ending)(w':World):Prop:=
 (A=0->WG w P M Mod e w')/\(A≠0->e=.returned (.tuple #[.pointer none,.int .i64 A])/\Below w.heap.size w w')
theorem zR(w:World)(P M A:Int)(mv T:Value)(H:Nat)(Mod:LI)(rows:LL)(hm:SI w mv Mod)(S:SS w T rows)(b:cK P M Mod)
  (Q:w.cell? ⟨H,0,none⟩=some (.int .i64 A))(R:w.cell? ⟨H,1,none⟩=some T):
  Calls Tryz.prog 111 #[.agg #[.int .i64 P,.int .i64 M,mv],.slice (some ⟨H,0,none⟩) 1 1] w (XM w P M Mod (pY (aC P M) A rows)):=by
 have W:=zh hm;have K:=zh S;clear hm S;obtain⟨X,c,rfl,_⟩:=K.out;have B:=zh (cV.mk' w P M mv);have U:=zh Q;have V:=zh R;clear Q R;go_enter Tryz.func111,Tryz.ntmps111;go_wp2_with fail;generalize hw0:w.alloc (.cells #[.int .i64 P,.int .i64 M,mv] 24)=w0 at*;have c0:=B.c0;have c1:=B.c1;have c2:=B.c2;go_wp2_with fail;refine(mK _ P M mv Mod (W.below B.bel zr) b).mono ?_;rintro e w1 ⟨a,rfl,O,L⟩;have J:=zh (O.mono B.bel.size);have D:=zh (aA B.bel L);clear L O c0 c1 c2;go_wp2_with fail;go_loopw [20] (fun i wr=>(i=.int .i64 0/\Hid (wr=w1))\/(i=.int .i64 1/\Hid (pY (aC P M) A rows=0)/\Hid (Below w1.heap.size w1 wr))) (fun i _=>(1-intOf i).toNat)
 case atStart=>exact .inl ⟨rfl,rfl⟩
 case round=>
  rcases hrel with⟨rfl,G⟩|⟨rfl,E,G⟩
  .obtain rfl:=G.out;have Y:=aE D.out U.out;have Z:=aE D.out V.out;have F:=zh (aF wr (.cells #[.int .i64 A,.slice X rows.length c] 86));go_wp2_with fail;refine(tE _ a P M A Mod _ rows (J.on F).out ((K.below D zr).below F zr)).mono ?_;rintro e d ⟨rfl,N⟩;have I:=zh (aA F N);clear N F Y Z;by_cases C:pY (aC P M) A rows=0
   .rw[C];have E:=zh C;clear C;go_wp2_with fail;exact⟨.inr ⟨rfl,E,I⟩,by simp only[intOf];omega⟩
   .have hb:(pY (aC P M) A rows !=0)=true:=by rw[bne_iff_ne];exact C
    have E:=zh C;clear C;go_wp2_with fail;go_ret2;exact⟨fun h=>absurd h E,fun _=>⟨rfl,aA D I⟩⟩
  .go_wp2_with fail;go_ret2;refine⟨fun _=>⟨a,rfl,(J.mono zr).on G,aA D G⟩,fun h=>absurd E.out h⟩
theorem tA(w:World)(a:Nat)(P M:Int)(Mod:LI)(h:GF w a P M Mod):Calls Tryz.prog 121 #[.pointer (some ⟨a,0,none⟩)] w (fun e w'=>e=.returned (.int .i64 (aC P M))/\w=w'):=by obtain⟨q,mv,C,A,D,B,E,L,h⟩:=h;have c3:=h.c3;rw[h.ord];clear h;go_enter Tryz.func121,Tryz.ntmps121;go_wp2_with fail;go_ret;exact⟨rfl,rfl⟩
theorem S5(n:Nat)(h:n<=1000000)(w:World):(Instr.makeSlice 25 (.int .i64 0) (.int .i64 (n:Int))).run Tryz.prog w=
  .ok (.slice (some ⟨w.heap.size,0,none⟩) 0 n) (w.alloc (.cells (madeCells #[.slice none 0 0] n) 22)):=by
 obtain⟨D,hi,A,B,C⟩:=info_parts Tryz.infoInts;have:=run_make (P:=Tryz.prog) w 25 22 D (.slice none 0 0) Tryz.underlying25 hi A .i64 .i64 0 n (Int.le_refl _) (by omega) (by rw[C];omega) (by omega);simp only[aZ8,Int.toNat_zero,B,Nat.mul_one] at this;exact this
theorem OS.made0{B:Nat}{X:Nat->Prop}(w:World)(n:Nat)(hB:B<=w.heap.size)(h:n<=1000000):OS B X (w.alloc (.cells (madeCells #[.slice none 0 0] n) 22)) (.slice (some ⟨w.heap.size,0,none⟩) 0 n) []:=
 ⟨[],World.ownsRow_made w _ n hB (by unfold maxLen;omega) (by simp[size_madeCells]),fun i hi=>absurd hi (by simp)⟩
def DP(q:Nat)(r:Int):Prop:=∃k:Nat,(k:Int)<=r/\64<eB q k
theorem K8{q:Nat}(hq:2<=q)(A:q<=256){k:Nat}(h:eB q k<=64):q^k<=16384/\k<=64:=by
 refine⟨?_,aZ6 (D7 hq k) h⟩;cases k with
 |zero=>simp
 |succ k=>rw[eB] at h;rw[Nat.pow_succ];have:q^k*q<=64*256:=Nat.mul_le_mul (by omega) A;omega
theorem W9(w:World)(P M r:Int)(mv:Value)(Mod:LI)(q:Nat)(h:SI w mv Mod)(F:cK P M Mod)(u:1<=r)(V:I64 r)(hq:aC P M=(q:Int))(E:DP q r):
  Calls Tryz.prog 292 #[.agg #[.int .i64 P,.int .i64 M,mv],.int .i64 r] w (BT w [] 4):=by
 have N:=zh h;clear h;have A:=zh (cV.mk' w P M mv);have Q:=zh hq;have S:=cG F.1;have U:=aK P M;have T:2<=q:=by omega
 have I:q<=256:=by omega
 obtain⟨W,v⟩:=V;have K:=zh E;clear hq E S U W;go_enter Tryz.func292,Tryz.ntmps292;go_wp2_with fail;generalize hw0:w.alloc (.cells #[.int .i64 P,.int .i64 M,mv] 24)=w0 at*;have c0:=A.c0;have c1:=A.c1;have c2:=A.c2;go_wp2_with fail;refine(mK _ P M mv Mod (N.below A.bel zr) F).mono ?_;rintro e w1 ⟨a,rfl,G,D⟩;have L:=zh G.out;have J:=zh (aA A.bel D);clear D G;go_wp2_with fail;refine(tA _ a P M Mod L).mono ?_;rintro e w2 ⟨rfl,rfl⟩;rw[Q.out];go_wp2_with fail;go_loop [9,10,28] (fun n p i=>∃k:Nat,(k:Int)<=r/\n=.int .i64 (eB q k:Nat)/\p=.int .i64 (q^k:Nat)/\i=.int .i64 (k:Int)/\eB q k<=64) (fun _ _ i=>65-(intOf i).toNat)
 case atStart=>exact⟨0,by omega,rfl,by simp,rfl,by simp[eB]⟩
 case round=>
  obtain⟨k,f,rfl,rfl,rfl,hg⟩:=hrel;have H:=K8 T I hg;have C:Hid (eB q (k+1)=eB q k+q^k):=rfl;have O:Hid (q^(k+1)=q^k*q):=Nat.pow_succ q k;by_cases l:(k:Int)<r
  .have b:0<=q^k*q:=aZ5 _;have g:q^k*q<=16384*256:=Nat.mul_le_mul H.1 I;generalize hpk:q^k=B at*;have Y:=zh hpk;clear hpk;generalize hgk:eB q k=gk at*;have X:=zh hgk;clear hgk;obtain⟨s,t⟩:=H;by_cases Z:64<gk+B
   .have R:(64:Int)<(gk:Int)+(B:Int):=by omega
    go_wp2_with fail;go_ret2;exact BT.nil w 4 J.out
   .have R:¬(64:Int)<(gk:Int)+(B:Int):=by omega
    have m:0<=(B:Int)*(q:Int):=by rw[<-Int.natCast_mul];omega
    have o:(B:Int)*(q:Int)<=16384*256:=by rw[<-Int.natCast_mul];omega
    go_wp2_with fail;go_round
    case rel=>exact⟨k+1,by omega,by rw[C.out];push_cast;rfl,by rw[O.out];push_cast;rfl,by push_cast;rfl,by rw[C.out];omega⟩
    case measure=>simp[intOf];omega
  .exfalso;obtain⟨j,c,d⟩:=K.out;have:=ND (q:=q) (show j<=k by omega);omega
theorem OJ{q r s:Nat}:(pJ q (s+1)).map (cI q r)=(pJ q s).map (cI q r)++((List.range (q^s)).map fun t=>q^s+t).map (cI q r):=by rw[pJ,List.map_append]
theorem JF{q r s t:Nat}:(pJ q s).map (cI q r)++((List.range (t+1)).map fun t=>q^s+t).map (cI q r)=((pJ q s).map (cI q r)++((List.range t).map fun t=>q^s+t).map (cI q r))++[cI q r (q^s+t)]:=by rw[List.range_succ,List.map_append,List.map_append,List.append_assoc];rfl
theorem PK{q r n:Nat}(hq:0<q)(k:Nat):0<=(cI q r n).getD k 0/\(cI q r n).getD k 0<(q:Int):=by
 by_cases h:k<r
 .unfold cI;rw[aS h];have:=Nat.mod_lt (n/q^(r-1-k)) hq;omega
 .rw[aW (by rw[jD];omega)];omega
theorem OC(w:World)(P M r:Int)(mv:Value)(Mod:LI)(q:Nat)(h:SI w mv Mod)(Ax:cK P M Mod)(Ce:1<=r)(hq:aC P M=(q:Int))(Av:¬DP q r):
  Calls Tryz.prog 292 #[.agg #[.int .i64 P,.int .i64 M,mv],.int .i64 r] w (BT w (tJ q r.toNat) 0):=by
 have Bl:=zh h;clear h;have Q:=zh (cV.mk' w P M mv);have Bp:=zh hq;have Cc:=cG Ax.1;have Cd:=aK P M;have F:2<=q:=by omega
 have Bd:q<=256:=by omega
 obtain⟨R,rfl⟩:∃R:Nat,r=(R:Int):=⟨r.toNat,by omega⟩
 rw[aZ8];have O:Hid (∀k,k<=R->eB q k<=64):=aD fun k ξ=>Nat.le_of_not_lt fun h=>Av ⟨k,by omega,h⟩;have Cl:1<=R:=by omega
 have Cm:R<=64:=aZ6 (D7 F R) (O R zr);clear hq Av Cc Cd Ce;go_enter Tryz.func292,Tryz.ntmps292;go_wp2_with fail;generalize hw0:w.alloc (.cells #[.int .i64 P,.int .i64 M,mv] 24)=w0 at*;have c0:=Q.c0;have c1:=Q.c1;have c2:=Q.c2;go_wp2_with fail;refine(mK _ P M mv Mod (Bl.below Q.bel zr) Ax).mono ?_;rintro e w1 ⟨a,rfl,Az,Au⟩;have Bj:=zh Az.out;have χ:=zh (aA Q.bel Au);clear Au Az;go_wp2_with fail;refine(tA _ a P M Mod Bj).mono ?_;rintro e w2 ⟨rfl,rfl⟩;rw[Bp.out];clear c0 c1 c2;go_wp2_with fail;go_loop [9,10,28] (fun n p i=>∃k:Nat,k<=R/\n=.int .i64 (eB q k:Nat)/\p=.int .i64 (q^k:Nat)/\i=.int .i64 (k:Int)) (fun _ _ i=>R-(intOf i).toNat)
 case atStart=>exact⟨0,by omega,rfl,by simp,rfl⟩
 case round=>
  obtain⟨k,ξ,rfl,rfl,rfl⟩:=hrel;have σ:=K8 F Bd (O k ξ);have ε:Hid (eB q (k+1)=eB q k+q^k):=rfl;have Aj:Hid (q^(k+1)=q^k*q):=Nat.pow_succ q k;have Cs:=O.out k ξ;by_cases π:k<R
  .have Ct:0<=q^k*q:=aZ5 _;have Cy:q^k*q<=16384*256:=Nat.mul_le_mul σ.1 Bd;have Bw:=O.out (k+1) (by omega);rw[ε.out] at Bw;generalize hpk:q^k=φ at*;have Ck:=zh hpk;clear hpk;generalize hgk:eB q k=gk at*;have Ae:=zh hgk;clear hgk;obtain⟨De,Df⟩:=σ;have Co:¬(64:Int)<(gk:Int)+(φ:Int):=by omega
   have Db:0<=(φ:Int)*(q:Int):=by rw[<-Int.natCast_mul];omega
   have Dc:(φ:Int)*(q:Int)<=16384*256:=by rw[<-Int.natCast_mul];omega
   go_wp2_with fail;go_round
   case rel=>exact⟨k+1,by omega,by rw[ε.out];push_cast;rfl,by rw[Aj.out];push_cast;rfl,by push_cast;rfl⟩
   case measure=>simp[intOf];omega
  .obtain rfl:R=k:=by omega
   clear ε Aj σ;generalize hgk:eB q R=gk at*;have Ae:=zh hgk;clear hgk;have Ca:=fun(w:World)=>S5 gk (by omega) w;have Dd:=fun(w:World)=>dV R (by omega) w;have An:=zh (OS.made0 (B:=w1.heap.size) (X:=fun _=>False) w1 gk zr (by omega));have ψ:=zh (aF w1 (.cells (madeCells #[.slice none 0 0] gk) 22));go_wp2_with fail;clear Ca;go_loopw [11,12] (fun v l wr=>∃(s:Nat) (A:Option Addr) (G:Nat),s<=R/\v=.slice A (eB q s) G/\l=.int .i64 ((R:Int)-1-(s:Int))/\Hid (OS w1.heap.size (fun _=>False) wr v ((pJ q s).map (cI q R)))/\Hid (Below w1.heap.size w1 wr)) (fun _ l _=>(intOf l+1).toNat)
   case atStart=>exact⟨0,_,_,by omega,rfl,by simp,An,ψ⟩
   case round=>
    clear An ψ;obtain⟨s,A,G,Dg,rfl,rfl,E,I⟩:=hrel;by_cases Cf:s<R
    .obtain⟨l,Bc⟩:∃l:Nat,(R:Int)-1-(s:Int)=(l:Int):=⟨R-1-s,by omega⟩
     have Da:l+s+1=R:=by omega
     rw[Bc];have Af:Hid (l=R-1-s):=aD (show l=R-1-s by omega);obtain⟨g,hg⟩:∃g,g=wr.heap.size:=⟨_,rfl⟩
     have b:=zh (RI.made wr R);have Bu:=b.cell l (by simp;omega);have Bv:=b.frozen l;have Cx:(0:Int)<=(l:Int):=by omega
     have At:(wr.alloc (.cells (madeCells #[.int .i64 0] R) 3)).setCell ⟨wr.heap.size,l,none⟩ (.int .i64 1)=wr.alloc (.cells ((madeCells #[.int .i64 0] R).setIfInBounds l (.int .i64 1)) 3):=World.setCell_alloc_at _ _ _ _ _ rfl;have ζ:Hid (RI (wr.alloc (.cells ((madeCells #[.int .i64 0] R).setIfInBounds l (.int .i64 1)) 3)) wr.heap.size (cI q R (q^s))):=by have:=b.set l 1;rw[At,Af.out,PL F Cf,<-Af.out] at this;exact this
     have o:=zh (aF wr (.cells ((madeCells #[.int .i64 0] R).setIfInBounds l (.int .i64 1)) 3));clear Bc At;go_wp2_with fail;clear Bu Bv b;have J:Hid ((Value.slice A (eB q s) G).ownBlock≠some g):=aD fun e=>by have:=(E.lt e).2;omega
     have Ap:Hid (OS w1.heap.size (fun x=>x=g) (wr.alloc (.cells ((madeCells #[.int .i64 0] R).setIfInBounds l (.int .i64 1)) 3)) (.slice A (eB q s) G) ((pJ q s).map (cI q R))):=(E.names (Y:=fun x=>x=g) fun x τ e=>by omega).below o.out;have Ab:=zh (aA I (o.mono zr));have Ba:w1.heap.size<=g:=by have:=I.size;omega
     generalize hwg:wr.alloc (.cells ((madeCells #[.int .i64 0] R).setIfInBounds l (.int .i64 1)) 3)=Dh at*;rw[<-hg] at ζ|-;clear hwg hg o;have Bx:=O.out (s+1) (by omega);have z:Hid (eB q (s+1)=eB q s+q^s):=rfl;rw[z.out] at Bx;have Cb:0<q^s:=Nat.pow_pos (by omega);clear E;go_loopw [11] (fun v wr=>∃(t:Nat) (A:Option Addr) (G:Nat),t<q^s/\v=.slice A (eB q s+t) G/\Hid (OS w1.heap.size (fun x=>x=g) wr v ((pJ q s).map (cI q R)++((List.range t).map fun t=>q^s+t).map (cI q R)))/\Hid (v.ownBlock≠some g)/\Hid (RI wr g (cI q R (q^s+t)))/\Hid (Below w1.heap.size w1 wr)) (fun v _=>eB q (s+1)-L0 v)
     case atStart=>exact⟨0,_,_,Cb,rfl,by simpa using Ap,J,ζ,Ab⟩
     case round=>
      clear Ap J ζ Ab;obtain⟨t,A,G,Be,rfl,E,J,Z,I⟩:=hrel;have κ:Hid (SI wr (.slice (some ⟨g,0,none⟩) R R) (cI q R (q^s+t))):=aD (by have:=Z.si (by rw[jD];omega) (fun k=>by have:=PK (r:=R) (n:=q^s+t) (show 0<q by omega) k;exact I64.of_small (by omega) (by omega));rw[jD] at this;exact this);go_wp2_with fail;refine(iV _ _ _ κ).mono ?_;rintro e H ⟨u,rfl,L,f⟩;obtain⟨C,D,rfl⟩:=L.form';rw[jD] at L|-;have As:Hid (0<(cI q R (q^s+t)).length->∀K,(Value.slice C R D).ownBlock=some K->(Value.slice A (eB q s+t) G).ownBlock≠some K/\¬K=g):=aD fun _ K Ay=>⟨fun e=>by have Br:=(L.lt Ay).1;have Bs:=(E.lt e).2;omega,fun e=>by have Br:=(L.lt Ay).1;have Bs:=Z.lt;omega⟩
      have Aq:Hid (SI H (.slice C R D) (cI q R (q^s+t))):=L.si (by rw[jD];omega) (SI.wfs κ);have Ao:=zh (E.below f);have η:=zh (Z.belowS f);have m:=zh (aA I f);have Ac:Hid ((H.alloc (.cells #[.slice C R D] 22)).cell? ⟨H.heap.size,0,none⟩=some (.slice C R D)):=(Blk.new H 22 [.slice C R D]).cell 0;have μ:Hid (w1.heap.size<=(H.alloc (.cells #[.slice C R D] 22)).heap.size):=aD (by have:=m.size;rw[World.size_alloc];omega);have Ag:Hid (((pJ q s).map (cI q R)++((List.range t).map fun t=>q^s+t).map (cI q R)).length+1<=4398046511104):=aD (by simp[oK];omega);have ι:=zh (Ao.alloc (.cells #[.slice C R D] 22));have Ar:=zh (Aq.below (aF H (.cells #[.slice C R D] 22)) zr);have Ak:=zh (η.alloc (.cells #[.slice C R D] 22));have ω:=zh (aA m (aF H (.cells #[.slice C R D] 22)));have Cr:=η.lt;clear L f;go_wp2_with (at_builtin;go_loud (refine jM rfl _ _ rfl w1.heap.size (fun x=>x=g) _ _ rfl ι.out H.heap.size 1 _ _ rfl Ac Ar As Ag μ ?_);(intro Cj Bh ρ hg U);go_loud (rw[<-JF] at ρ;have Ah:=zh ρ;have Al:=zh (Ak.grown hg (fun e=>J.out e.symm));have Aa:=zh (ι.bgrown ω μ hg);have δ:Hid (Cj.ownBlock≠some g):=aD (fun e=>U.elim (fun h=>J.out (h▸e)) (fun h=>(by rw[h,World.size_alloc] at e;have:=aZ0 e;omega)));clear ρ hg U))
      obtain⟨N,T,U⟩:=Ah.form;rw[aZ1,aY7,aY7,aY7,List.length_range,oK] at U;subst U;clear Ao ι η Ak m ω Ac μ Ag Ar Aq As κ E J Z I;have Am:Hid (RI Bh g (cI q R ((q^s+t)/q^0*q^0))):=by rw[Nat.pow_zero,Nat.div_one,Nat.mul_one];exact Al
      have Bb:(R:Int)-1=((R-1:Nat):Int):=by omega
      have Bq:=zh Aa.size;go_loopw [14] (fun i wr=>∃(c j:Nat),j+c+1=R/\c<=s/\i=.int .i64 (j:Int)/\Hid ((q^s+t)%q^c=q^c-1)/\Hid (RI wr g (cI q R ((q^s+t)/q^c*q^c)))/\Hid (Bh.grownBy wr (some g))) (fun i _=>(intOf i).toNat)
      case atStart=>exact⟨0,R-1,by omega,by omega,by rw[Bb],aD (by rw[Nat.pow_zero,Nat.mod_one]),Am,World.grownBy.refl _ _⟩
      case round=>
       clear Am Al;obtain⟨c,j,Cw,Cp,rfl,W,S,y⟩:=hrel;have V:Hid (j=R-1-c):=aD (show j=R-1-c by omega);have Ai:Hid (OS w1.heap.size (fun x=>x=g) wr (.slice N (eB q s+(t+1)) T) ((pJ q s).map (cI q R)++((List.range (t+1)).map fun t=>q^s+t).map (cI q R))):=aD (Ah.grown y fun K e=>(by obtain rfl:=aZ0 e;exact⟨δ.out,rfl⟩));have Ad:Hid (Below w1.heap.size w1 wr):=aD (Aa.grown y Bq fun k e=>(by obtain rfl:=aZ0 e;exact Ba));have Cu:=S.lt;clear Bb;by_cases π:c<s
       .have Bz:l<j:=by omega
        have Cz:(l:Int)<(j:Int):=by omega
        have Cv:j<R:=by omega
        have By:((j:Int)==(l:Int))=false:=by rw[beq_eq_false_iff_ne];omega
        have Aw:=S.cell j (by rw[jD];omega);have Cq:=S.frozen j;have ν:=TX (a:=(q^s+t)/q^c) (r:=R) F (show c<R by omega);rw[<-V.out] at ν;rw[ν] at Aw;have Ci:=Nat.mod_lt ((q^s+t)/q^c) (show 0<q by omega);generalize τ:(q^s+t)/q^c%q=x at Aw Ci;have d:=zh τ;clear τ ν;by_cases Bg:x+1=q
        .have hb:((x:Int)==(q:Int)-1)=true:=by rw[beq_iff_eq];omega
         have θ:Hid (RI (wr.setCell ⟨g,j,none⟩ (.int .i64 0)) g (cI q R ((q^s+t)/q^(c+1)*q^(c+1)))):=aD (by have:=S.set j 0;rw[V.out,KO F (by omega),<-V.out,Nat.div_div_eq_div_mul,<-Nat.pow_succ] at this;exact this);have Bm:Hid ((q^s+t)%q^(c+1)=q^(c+1)-1):=aD (ML F W (by rw[d.out];omega));have Bk:=zh (aP (p:=⟨g,j,none⟩) y (.inl rfl) (.int .i64 0));clear Bg;go_wp2_with fail;exact⟨⟨c+1,j-1,by omega,by omega,by congr 1;omega,Bm,θ,Bk⟩,by simp only[intOf];omega⟩
        .have hb:((x:Int)==(q:Int)-1)=false:=by rw[beq_eq_false_iff_ne];omega
         have θ:Hid (RI (wr.setCell ⟨g,j,none⟩ (.int .i64 ((x:Int)+1))) g (cI q R (q^s+(t+1)))):=aD (by have:=S.set j ((x:Int)+1);have e:=V7 (r:=R) (a:=(q^s+t)/q^c) F (show c<R by omega) (by rw[d.out];omega);rw[d.out,<-V.out,FF F W.out] at e;push_cast at e;rw[e] at this;exact this);have Ch:t+1<q^s:=O8 F π Be (by rw[d.out];omega) W.out;have Bn:Hid (OS w1.heap.size (fun x=>x=g) (wr.setCell ⟨g,j,none⟩ (.int .i64 ((x:Int)+1))) (.slice N (eB q s+(t+1)) T) ((pJ q s).map (cI q R)++((List.range (t+1)).map fun t=>q^s+t).map (cI q R))):=aD (Ai.grown (bF wr g j _) fun K e=>(by obtain rfl:=aZ0 e;exact⟨δ.out,rfl⟩));have Bi:=zh (Ad.setCell (p:=⟨g,j,none⟩) Ba (.int .i64 ((x:Int)+1)));clear Bg;go_wp2_with fail;exact⟨⟨t+1,N,T,Ch,rfl,Bn,δ,θ,Bi⟩,by simp only[L0];rw[z.out];omega⟩
       .obtain rfl:s=c:=by omega
        obtain rfl:j=l:=by omega
        have By:((j:Int)==(j:Int))=true:=by simp
        have Bz:¬j<j:=by omega
        have Bf:=RL Be W.out;have Bo:Hid (OS w1.heap.size (fun _=>False) wr (.slice N (eB q s+(t+1)) T) ((pJ q (s+1)).map (cI q R))):=aD (by have Bt:=Ai.names (Y:=fun _=>False) (fun _ _ h=>h.elim);rw[OJ,show List.range (q^s)=List.range (t+1) by rw[Bf]];exact Bt);clear π;go_wp2_with fail;exact⟨⟨s+1,N,T,by omega,by rw[z.out,Bf],by congr 1;omega,Bo,Ad⟩,by simp only[intOf];omega⟩
    .obtain rfl:R=s:=by omega
     go_wp2_with fail;go_ret2;refine⟨_,rfl,E.ss (by rw[aY7,oK,Ae.out];omega),fun g hg=>?_,aA χ I⟩;exact aZ6 χ.size (E.lt hg).1
end Go.Proofs.YtpfhoemohibniaaGreatDoor
