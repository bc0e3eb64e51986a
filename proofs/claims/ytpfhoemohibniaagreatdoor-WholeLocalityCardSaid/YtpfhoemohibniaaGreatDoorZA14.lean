/- Texts of a claim, merged. -/
import Derived.Test.YtpfhoemohibniaaGreatDoorZA13
set_option maxRecDepth 100000
set_option linter.unusedVariables false
set_option maxHeartbeats 32000000
namespace Go.Proofs.YtpfhoemohibniaaGreatDoor
theorem CD{O:aO}{q:Int}(hO:O.Fld q):∃x,cR q x/\fV O x (q.toNat-1)/\sZ O q=(List.range (q.toNat-1)).map (bG O x):=by
 obtain⟨x,D,H⟩:=WM hO;have hq:=hO.lt.pos;have K:=TK hO D H (by omega);have G:lH O q x=true:=by
  unfold lH iP;rw[K,aY7,List.length_range,aY9];refine⟨by rw[beq_iff_eq];omega,?_⟩;rw[beq_iff_eq];have e:((List.range (q.toNat-1)).map (bG O x)).getD (q-2).toNat 0=bG O x (q-2).toNat:=by
   have:(q-2).toNat<q.toNat-1:=by omega
   simp[List.getD,this]
  rw[e];have C:=H.2.1;rw[show q.toNat-1=(q-2).toNat+1 by omega] at C;exact C
 have F:∀y,lH O q y=true->iP O q y≠[]:=fun y A e=>by unfold lH at A;rw[e,aY9] at A;have:=A.1;rw[beq_iff_eq] at this;simp at this;omega
 have B:sZ O q≠[]:=FZ _ _ ⟨x,by have:=D.1;omega,by have:=D.2;omega,G,F x G⟩ F;obtain⟨y,a,b,c,d⟩:=vV _ _ B;have A:cR q y:=⟨by omega,by omega⟩
 unfold lH at c;rw[aY9,beq_iff_eq,beq_iff_eq] at c;obtain⟨L,E⟩:=c;have M:(iP O q y).length=iB O y q.toNat 1:=by unfold iP;rw[aY7,List.length_range]
 have J:iB O y q.toNat 1=q.toNat-1:=by omega
 have e:(iP O q y).getD (q-2).toNat 0=bG O y (q-2).toNat:=by
  unfold iP;have:(q-2).toNat<iB O y q.toNat 1:=by omega
  simp[List.getD,this]
 rw[e] at E;refine⟨y,A,⟨by omega,?_,fun j B C I=>?_⟩,?_⟩
 .rw[show q.toNat-1=(q-2).toNat+1 by omega];exact E
 .have hb:=pN O y q.toNat 1 j B (by omega);exact(fA hb).2 0 (by omega) I.symm
 .show sY O q _ 1=_;rw[d];unfold iP;rw[J]
section
variable {P M:Int} {Mod:LI}
theorem EG(A:aC P M≠0)(B:pW P M Mod)(x y:Int):Cg P (dg P M (bO P M Mod x y)) (eT (fn Mod) M.toNat (dg P M x) (dg P M y)):=fun i=>by
 obtain⟨D,_,C,_,_,_⟩:=bN A;by_cases hi:i<M.toNat
 .rw[gQ A B x y hi,Int.emod_emod_of_dvd _ (Int.dvd_refl P)]
 .rw[dB P M _ i (by omega),zU (fn Mod) M.toNat (dB P M x) _ i (by omega)]
theorem JQ(A:aC P M≠0)(B:pW P M Mod)(x y z:Int):bO P M Mod (bO P M Mod x y) z=bO P M Mod x (bO P M Mod y z):=by refine jF A (mZ A Mod _ _) (mZ A Mod _ _) fun i hi=>?_;rw[gQ A B _ _ hi,gQ A B _ _ hi];have C:=uW (fn Mod) M.toNat (EG A B x y) (fun k=>(rfl:dg P M z k%P=dg P M z k%P)) i;have D:=uW (fn Mod) M.toNat (Cg.refl P (dg P M x)) (EG A B y z) i;rw[C,D,zT _ _ (dB P M x) (dB P M y) (dB P M z)]
theorem GM(A:aC P M≠0)(E:pW P M Mod){x:Int}(B:0<=x)(C:x<aC P M):bO P M Mod x 1=x:=by obtain⟨D,_,F,_,_,_⟩:=bN A;exact jF A (mZ A Mod x 1) ⟨B,C⟩ fun i hi=>by rw[gQ A E x 1 hi,I2 A,GN _ _ (by omega),yV D]
theorem nC(A:aC P M≠0)(x:Int):∀k,0<=bG (aB P M Mod) x k/\bG (aB P M Mod) x k<aC P M
 |0=>⟨by show(0:Int)<=1;omega,cG A⟩
 |k+1=>mZ A Mod _ _
theorem GW(A:aC P M≠0)(B:pW P M Mod)(x:Int)(a:Nat):∀b,bG (aB P M Mod) x (a+b)=bO P M Mod (bG (aB P M Mod) x a) (bG (aB P M Mod) x b)
 |0=>(GM A B (nC A x a).1 (nC A x a).2).symm
 |b+1=>by show bO P M Mod (bG (aB P M Mod) x (a+b)) x=bO P M Mod _ (bO P M Mod _ x);rw[GW A B x a b,JQ A B]
theorem GY{l g:Nat->Int}{N d:Nat}(K:1<=d)(A:Cg P (fun j=>aZ g d l N (aL 0) j+tP g d N (aL 0) j) dS)(a:Nat->Int)(J:Sup N a)(I:0<N):∀k,Cg P (aZ g d (tP l N k a) N (aL 0)) (tP g d k (aZ g d a N (aL 0)))
 |0=>Cg.refl _ _
 |k+1=>by
  refine Cg.trans ?_ ((GY K A a J I k).lin (tO g d));obtain⟨v,L⟩:∃v,v=tP l N k a:=⟨_,rfl⟩
  show Cg P (aZ g d (tX l N (tP l N k a)) N (aL 0)) (tX g d (aZ g d (tP l N k a) N (aL 0)));rw[<-L];obtain⟨e,rfl⟩:∃e,N=e+1:=⟨N-1,by omega⟩
  intro j;have C:aZ g d (tX l (e+1) v) (e+1) (aL 0) j=aZ g d (fun i=>if i=0 then 0 else v (i-1)) (e+1) (aL 0) j-v e*aZ g d l (e+1) (aL 0) j:=by
   have:∀i,i<e+1->tX l (e+1) v i*tP g d i (aL 0) j=(if i=0 then 0 else v (i-1))*tP g d i (aL 0) j+(-v e)*(l i*tP g d i (aL 0) j):=fun i hi=>by unfold tX;rw[if_pos hi,show e+1-1=e by omega,Int.sub_mul,Int.neg_mul,aY8];rfl
   show bH (fun i=>tX l (e+1) v i*tP g d i (aL 0) j) (e+1)=bH _ (e+1)-v e*bH _ (e+1);rw[bD this,iC,<-eV,Int.neg_mul];rfl
  have D:tX g d (aZ g d v (e+1) (aL 0)) j=bH (fun i=>v i*tP g d (i+1) (aL 0) j) (e+1):=congrFun ((tO g d).sum v (fun i=>tP g d i (aL 0)) (e+1)) j;have E:aZ g d (fun i=>if i=0 then 0 else v (i-1)) (e+1) (aL 0) j=bH (fun i=>v i*tP g d (i+1) (aL 0) j) e:=by show bH (fun i=>(if i=0 then 0 else v (i-1))*tP g d i (aL 0) j) (e+1)=_;rw[pO,if_pos rfl,Int.zero_mul,Int.zero_add];exact bD fun i _=>by rw[if_neg (by omega),show i+1-1=i by omega]
  have h:=A j;dsimp only at h;have H:(aZ g d l (e+1) (aL 0) j+tP g d (e+1) (aL 0) j)%P=0:=by rw[h];exact Int.zero_emod P
  obtain⟨t,M⟩:=Int.dvd_of_emod_eq_zero H;rw[C,D,E,bH];generalize bH (fun i=>v i*tP g d (i+1) (aL 0) j) e=S;generalize aZ g d l (e+1) (aL 0) j=G at*;have F:G=P*t-tP g d (e+1) (aL 0) j:=by omega
  generalize tP g d (e+1) (aL 0) j=B at*;rw[F,Int.mul_sub,show S-(v e*(P*t)-v e*B)=(S+v e*B)+P*(-(v e*t)) by rw[Int.mul_neg,show P*(v e*t)=v e*(P*t) by rw[<-aY8,Int.mul_comm P,aY8]];omega];exact Int.add_mul_emod_self_left _ _ _
theorem OK{l g:Nat->Int}{N d:Nat}(D:1<=d)(E:Cg P (fun j=>aZ g d l N (aL 0) j+tP g d N (aL 0) j) dS){a:Nat->Int}(C:Sup N a)(B:0<N)(b:Nat->Int):Cg P (aZ g d (eT l N a b) N (aL 0)) (aZ g d b N (aZ g d a N (aL 0))):=by
 have e:aZ g d (eT l N a b) N (aL 0)=fun j=>bH (fun k=>b k*aZ g d (tP l N k a) N (aL 0) j) N:=by
  funext j;show bH (fun i=>bH (fun k=>b k*tP l N k a i) N*tP g d i (aL 0) j) N=bH (fun k=>b k*bH (fun i=>tP l N k a i*tP g d i (aL 0) j) N) N;have A:bH (fun i=>bH (fun k=>b k*tP l N k a i) N*tP g d i (aL 0) j) N=bH (fun i=>bH (fun k=>b k*(tP l N k a i*tP g d i (aL 0) j)) N) N:=
   bD fun i _=>by rw[Int.mul_comm,eV];exact bD fun k _=>by rw[Int.mul_comm (tP g d i (aL 0) j),aY8]
  rw[A,sC];exact bD fun k _=>(eV _ _ _).symm
 rw[e];exact Cg.sum (v:=fun k=>aZ g d (tP l N k a) N (aL 0)) (u:=fun k=>tP g d k (aZ g d a N (aL 0))) (fun _ _=>rfl) fun k _=>GY D E a C B k
theorem F0(μ:lW P M Mod)(Y:¬cK P M Mod):sZ (aB P M Mod) (aC P M)=[]:=by
 obtain⟨A,Z,D⟩:=μ;obtain⟨X,τ,ρ,σ,_,ω⟩:=bN A;have δ:M≠1/\uN P Mod=false:=by
   by_cases h:M=1
   . exact absurd ⟨A,Z,D,fun J=>absurd h J⟩ Y
   . refine⟨h,?_⟩;rw[<-Bool.not_eq_true];exact fun J=>Y ⟨A,Z,D,fun _=>J⟩
 obtain⟨η,R⟩:=δ;obtain⟨ψ,ι⟩:=D.2 η;have s:Mod.length=M.toNat:=by omega
 --a divisor
 unfold uN pV at R;rw[List.all_eq_false] at R;obtain⟨e,t,hn⟩:=R;rw[List.mem_range] at t;simp only[Bool.not_eq_true] at hn;unfold mL at hn;rw[List.all_eq_false] at hn;obtain⟨v,Aa,Q⟩:=hn;simp only[Bool.not_eq_true,Bool.not_eq_false'] at Q;obtain⟨g,hg⟩:∃g,g=bU v P (e+1):=⟨_,rfl⟩
 rw[<-hg] at Q;have u:g.length=e+1:=by rw[hg,dI]
 have w:Rng P g:=fun k=>by rw[hg];exact fN X k
 have hR:Rng P Mod:=fun k=>by
   by_cases I:k<Mod.length
   . exact ι k I
   . rw[aW (by omega)];omega
 have I:=(wS X (by omega) hR (by omega)).1 Q;rw[u,s] at I;refine aY0 fun T=>?_;obtain⟨y,a,b,c,d⟩:=vV _ _ T;have hq:=cG A;unfold lH at c;rw[aY9,beq_iff_eq,beq_iff_eq] at c;obtain⟨ξ,V⟩:=c;have χ:(iP (aB P M Mod) (aC P M) y).length=iB (aB P M Mod) y (aC P M).toNat 1:=by unfold iP;rw[aY7,List.length_range]
 have o:(iP (aB P M Mod) (aC P M) y).getD (aC P M-2).toNat 0=bG (aB P M Mod) y (aC P M-2).toNat:=by
   unfold iP;have:(aC P M-2).toNat<iB (aB P M Mod) y (aC P M).toNat 1:=by omega
   simp[List.getD,this]
 rw[o] at V;have κ:bG (aB P M Mod) y ((aC P M).toNat-1)=1:=by rw[show(aC P M).toNat-1=(aC P M-2).toNat+1 by omega];exact V
 have H:∀j,1<=j->j<(aC P M).toNat-1->kZ (aB P M Mod) y j=false:=fun j E B=>pN (aB P M Mod) y (aC P M).toNat 1 j E (by omega)
 --the divisor as an element
 have f:∀i,i<(aQ M.toNat fun i=>if i<e+1 then g.getD i 0 else if i=e+1 then 1 else 0).length->0<=(aQ M.toNat fun i=>if i<e+1 then g.getD i 0 else if i=e+1 then 1 else 0).getD i 0/\(aQ M.toNat fun i=>if i<e+1 then g.getD i 0 else if i=e+1 then 1 else 0).getD i 0<P:=fun i hi=>by
   rw[aT] at hi;rw[aS hi];split
   . exact w i
   . split<;>omega
 obtain⟨G,W⟩:∃G,G=bL P (aQ M.toNat fun i=>if i<e+1 then g.getD i 0 else if i=e+1 then 1 else 0):=⟨_,rfl⟩
 have r:=lB A (aT _ _) f;rw[<-W] at r;have O:dg P M G=fun i=>if i<e+1 then g.getD i 0 else if i=e+1 then 1 else 0:=by
   funext i;by_cases hi:i<M.toNat
   . rw[W,tZ A (aT _ _) f hi,aS hi]
   . rw[dB P M G i (by omega),if_neg (by omega),if_neg (by omega)]
 have π:G≠0:=fun h=>by have:=congrFun O (e+1);rw[h,mT A] at this;rw[if_neg (by omega),if_pos rfl] at this;cases this
 --it is a power of y
 have x:∀i j:Nat,i<(aC P M).toNat-1->j<(aC P M).toNat-1->(bG (aB P M Mod) y i).toNat-1=(bG (aB P M Mod) y j).toNat-1->i=j:=by
   have m:∀i,i<(aC P M).toNat-1->bG (aB P M Mod) y i≠0:=fun i hi=>by
     by_cases K:i=0
     . rw[K];show(1:Int)≠0;decide
     . exact(fA (H i (by omega) hi)).1
   intro i j hi S h;have U:=nC (Mod:=Mod) A y i;have ν:=nC (Mod:=Mod) A y j;have Ab:=m i hi;have Ac:=m j S;have B:bG (aB P M Mod) y i=bG (aB P M Mod) y j:=by omega
   rcases Nat.lt_trichotomy i j with C|C|C
   . exact absurd B ((fA (H j (by omega) S)).2 i C)
   . exact C
   . exact absurd B.symm ((fA (H i (by omega) hi)).2 j C)
 obtain⟨k,ε,φ⟩:=kP ((aC P M).toNat-1) (fun i=>(bG (aB P M Mod) y i).toNat-1) (fun i hi=>by have U:=nC (Mod:=Mod) A y i;omega) x (G.toNat-1) (by omega);have ζ:bG (aB P M Mod) y k=G:=by
   have U:=nC (Mod:=Mod) A y k;have:bG (aB P M Mod) y k≠0:=by
     by_cases K:k=0
     . rw[K];show(1:Int)≠0;decide
     . exact(fA (H k (by omega) ε)).1
   omega
 have z:bO P M Mod G (bG (aB P M Mod) y ((aC P M).toNat-1-k))=1:=by rw[<-ζ,<-GW A D,show k+((aC P M).toNat-1-k)=(aC P M).toNat-1 by omega,κ]
 --pushed down
 have E := EG A D G (bG (aB P M Mod) y ((aC P M).toNat - 1 - k));rw [z, I2 A] at E;have B := (E.lin (L := fun a => aZ (fn g) (e + 1) a M.toNat (aL 0)) ⟨fun a b => funext fun j => by
     show bH (fun i=>(a i+b i)*_) _=bH (fun i=>a i*_) _+bH (fun i=>b i*_) _;rw[<-iC];exact bD fun i _=>Int.add_mul _ _ _,fun c a=>funext fun j=>by
     show bH (fun i=>(c*a i)*_) _=c*bH (fun i=>a i*_) _;rw[eV];exact bD fun i _=>aY8 _ _ _⟩).trans (OK (by omega) I (dB P M G) (by omega) _)
 have p:aZ (fn g) (e+1) (dg P M G) M.toNat (aL 0)=dS:=by have θ:=sN (l:=fn g) (N:=e+1) (by omega) (b:=aL 0) (rC _ (by omega)) (fun j S=>aW (by omega));rw[<-θ];funext j;show bH (fun i=>dg P M G i*tP (fn g) (e+1) i (aL 0) j) M.toNat=_;rw[AQ (n:=e+2) (by omega) fun i a b=>by rw[O];dsimp only;rw[if_neg (by omega),if_neg (by omega),Int.zero_mul],bH,O];dsimp only;rw[if_neg (by omega),if_pos rfl,Int.one_mul,Int.add_comm];congr 1;exact bD fun i hi=>by rw[if_pos hi];rfl
 rw[p] at B;have F:=B 0;rw[show aZ (fn g) (e+1) (dg P M (bG (aB P M Mod) y ((aC P M).toNat-1-k))) M.toNat dS=fun _=>0 from(nR _ _ _ _).zero] at F;have q:aZ (fn g) (e+1) (aL 0) M.toNat (aL 0) 0=1:=by show bH (fun i=>aL 0 i*tP (fn g) (e+1) i (aL 0) 0) M.toNat=1;rw[eN (k:=0) (by omega) fun i _ T=>by unfold aL;rw[if_neg T,Int.zero_mul]];rfl
 rw[q] at F;rw[Int.emod_eq_of_lt (by omega) (by omega),Int.zero_emod] at F;cases F
end
end Go.Proofs.YtpfhoemohibniaaGreatDoor
namespace Go.Proofs.YtpfhoemohibniaaGreatDoor
open Go.RowKit
def oO(O:aO)(x:Int)(q k:Nat):List Bool:=(List.range q).map fun i:Nat=>((List.range k).map (bG O x)).contains (i:Int)
theorem rZ(O:aO)(x:Int)(q k:Nat):(oO O x q k).length=q:=by simp[oO]
theorem tM{O:aO}{x:Int}{q k i:Nat}(h:i<q):(oO O x q k)[i]?=some (((List.range k).map (bG O x)).contains (i:Int)):=by unfold oO;rw[List.getElem?_map,List.getElem?_range h];rfl
theorem DD{O:aO}{x:Int}{q k i:Nat}(hi:i<q)(h:bG O x k=i):(oO O x q k).set i true=oO O x q (k+1):=by
 apply List.ext_getElem?;intro j;by_cases C:j<q
 .rw[tM C];by_cases e:i=j
  .subst e;rw[List.getElem?_set_self (by rw[rZ];exact hi)];congr 1;rw[eq_comm,List.contains_iff_mem];exact List.mem_map.2 ⟨k,List.mem_range.2 (by omega),h⟩
  .rw[List.getElem?_set_ne e,tM C];congr 1;rw[Bool.eq_iff_iff,List.contains_iff_mem,List.contains_iff_mem,List.mem_map,List.mem_map];constructor
   .rintro ⟨a,B,A⟩;exact⟨a,List.mem_range.2 (by have:=List.mem_range.1 B;omega),A⟩
   .rintro ⟨a,B,A⟩;have:=List.mem_range.1 B;refine⟨a,List.mem_range.2 ?_,A⟩;have:a≠k:=fun D=>by rw[D,h] at A;exact e (by omega)
    omega
 .rw[aY4 (by simp[rZ];omega),aY4 (by rw[rZ];omega)]
theorem WY:∀(k n:Nat) (f:Nat->Nat),(∀i,i<k->f i<n)->(∀i j,i<k->j<k->f i=f j->i=j)->k<=n:=by
 intro k n f A B;refine Nat.le_of_not_lt fun C=>?_
 --extend f to n numbers
 obtain⟨i,hi,D⟩:=kP n f (fun i hi=>A i (by omega)) (fun i j hi E=>B i j (by omega) (by omega)) (f n) (A n C);have:=B i n (by omega) C D;omega
theorem NY{P M:Int}{Mod:LI}(A:aC P M≠0)(B:pW P M Mod)(x y:Int):bO P M Mod x y=bO P M Mod y x:=
 jF A (mZ A Mod x y) (mZ A Mod y x) fun i hi=>by rw[gQ A B x y hi,gQ A B y x hi,gL _ _ (dB P M x) (dB P M y)]
def L0:Value->Nat
 | .slice _ n _=>n
 |_=>0
theorem XD{O:aO}{x:Int}{q k:Nat}(G:1<=k)(A:∀j,0<=bG O x j/\bG O x j<(q:Int))(B:∀j,1<=j->j<k->kZ O x j=false):k<=q-1:=by
 have C:∀i,i<k->bG O x i≠0:=fun i hi=>by
  by_cases F:i=0
  .rw[F];show(1:Int)≠0;decide
  .exact(fA (B i (by omega) hi)).1
 refine WY k (q-1) (fun i=>(bG O x i).toNat-1) (fun i hi=>?_) fun i j hi E e=>?_
 .have:=C i hi;have:=A i;omega
 .have a:=C i hi;have b:=C j E;have c:=A i;have d:=A j;have D:bG O x i=bG O x j:=by omega
  rcases Nat.lt_trichotomy i j with h|h|h
  .exact absurd D ((fA (B j (by omega) E)).2 i h)
  .exact h
  .exact absurd D.symm ((fA (B i (by omega) hi)).2 j h)
theorem L1{O:aO}{x:Int}{q k:Nat}(A:1<=k)(E:k<=q)(D:∀j,1<=j->j<k->kZ O x j=false)(hb:kZ O x k=true):iB O x q 1=k:=by
 have key:∀f m,1<=m->m<=k->k<m+f->iB O x f m=k:=by
  intro f
  induction f with
  |zero=>intro m _ B C;omega
  |succ f ih=>
   intro m A B C;rw[iB];by_cases e:m=k
   .subst e;rw[if_pos hb]
   .rw[if_neg (by rw[D m A (by omega)];decide)];exact ih (m+1) (by omega) (by omega) (by omega)
 exact key q 1 zr A (by omega)
theorem JY(w:World)(P M x:Int)(mv:Value)(Mod:LI)(h:SI w mv Mod)(f:lW P M Mod)(Ax:1<=x)(t:x<aC P M):
  Calls Tryz.prog 151 #[.agg #[.int .i64 P,.int .i64 M,mv],.int .i64 (aC P M),.int .i64 x] w (pX w (iP (aB P M Mod) (aC P M) x)):=by
 have ω:=zh h;clear h;have J:=zh f;have An:=cG f.1;have Ao:=aK P M;have X:=zh (fun k=>nC (Mod:=Mod) f.1 x k);obtain⟨q,hq⟩:∃q:Nat,aC P M=(q:Int):=⟨(aC P M).toNat,by omega⟩
 obtain⟨O,hO⟩:∃O,O=aB P M Mod:=⟨_,rfl⟩
 rw[<-hO] at X|-;rw[hq] at X t An Ao|-;have o:=zh hq;have W:=zh hO;clear hq hO f;have Am:1<q:=by omega
 have Aw:q<=256:=by omega
 have Al:=fun(w:World)=>VY q (by omega) w;have χ:=zh (cV.mk' w P M mv);obtain⟨D,L⟩:∃D,D=(w.alloc (.cells #[.int .i64 P,.int .i64 M,mv] 24)).alloc (.cells #[.int .i64 1] 3):=⟨_,rfl⟩
 have i:D.heap.size=w.heap.size+1+1:=by rw[L,World.size_alloc,World.size_alloc]
 have Q:=zh (RB.made D q);have v:Hid (cV w (D.alloc (.cells (madeCells #[.bool false] q) 4)) P M mv):=by rw[L];exact(χ.on (aF _ _)).on (aF _ _)
 have δ:Hid (OI (w.heap.size+1) (D.alloc (.cells (madeCells #[.bool false] q) 4)) (.slice (some ⟨w.heap.size+1,0,none⟩) 1 1) [1]):=by have K:=OI.lit (B:=w.heap.size+1) (w.alloc (.cells #[.int .i64 P,.int .i64 M,mv] 24)) [1] (by rw[World.size_alloc];omega) (by simp);rw[World.size_alloc] at K;rw[L];exact K.alloc _
 have κ:(D.alloc (.cells (madeCells #[.bool false] q) 4)).cell? ⟨w.heap.size+1+1,1,none⟩=some (.bool false):=by have:=Q.cell 1 (by simp;omega);rw[i] at this;rw[this];simp[List.getD,Am]
 have μ:(D.alloc (.cells (madeCells #[.bool false] q) 4)).frozen? ⟨w.heap.size+1+1,1,none⟩=false:=by have:=Q.frozen 1;rw[i] at this;exact this
 rw[L] at κ μ;have Ag:=zh L;have η:=zh i;clear L i;go_enter Tryz.func151,Tryz.ntmps151;go_wp2_with fail;clear Al κ μ;rw[<-Ag.out];obtain⟨S,R⟩:∃S,S=w.heap.size+1+1:=⟨_,rfl⟩
 have θ:w.heap.size<S:=by omega
 rw[<-R];rw[η.out,<-R] at Q;have p:Hid (RB ((D.alloc (.cells (madeCells #[.bool false] q) 4)).setCell ⟨S,1,none⟩ (.bool true)) S (oO O x q 1)):=by
  have Ai:oO O x q 0=List.replicate q false:=by simp[oO,List.map_const']
  have:=Q.set 1 true;rw[<-Ai,DD (k:=0) (by omega) rfl] at this;exact this
 have F:Hid (cV w ((D.alloc (.cells (madeCells #[.bool false] q) 4)).setCell ⟨S,1,none⟩ (.bool true)) P M mv):=v.far θ _;have N:Hid (OI (w.heap.size+1) ((D.alloc (.cells (madeCells #[.bool false] q) 4)).setCell ⟨S,1,none⟩ (.bool true)) (.slice (some ⟨w.heap.size+1,0,none⟩) 1 1) ((List.range 1).map (bG O x))):=
  δ.grown (bF _ S 1 _) fun g hg e=>by have K:=aZ0 e;simp[Value.ownBlock] at hg;omega
 have ε:Hid (x=bG O x 1):=by show x=O.mul 1 x;rw[W.out];show x=bO P M Mod 1 x;rw[NY J.out.1 J.out.2.2,GM J.out.1 J.out.2.2 (by omega) (by rw[o.out];exact t)]
 clear Q v δ;have ι:(D.alloc (.cells (madeCells #[.bool false] q) 4)).setCell ⟨S,1,none⟩ (.bool true)=D.alloc (.cells ((madeCells #[.bool false] q).setIfInBounds 1 (.bool true)) 4):=by exact World.setCell_alloc_at _ _ _ _ _ (R.trans η.symm)
 rw[ι] at p F N;clear ι;have At:=zh R;clear R;go_loopw [7,9] (fun out y wr=>∃(k:Nat) (A:Option Addr) (c:Nat) (E:Int),1<=k/\out=.slice A k c/\y=.int .i64 E/\Hid (E=bG O x k)/\Hid (OI (w.heap.size+1) wr (.slice A k c) ((List.range k).map (bG O x)))/\Hid (RB wr S (oO O x q k))/\Hid (∀j,1<=j->j<k->kZ O x j=false)/\Hid (cV w wr P M mv)) (fun out _ _=>q-L0 out)
 case atStart=>exact⟨1,_,_,x,Nat.le_refl _,rfl,rfl,ε,N,p,aD fun j K Aj=>by omega,F⟩
 case round=>
  clear p F N ε;obtain⟨k,A,c,E,s,rfl,rfl,G,V,Y,Z,m⟩:=hrel;have As:0<=E/\E<(q:Int):=by rw[G.out];exact X.out k
  have Av:=XD s X.out Z.out;obtain⟨Ap,Aq⟩:=As;by_cases T:E=0
  .have hb:(E !=0)=false:=by rw[bne_eq_false_iff_eq];exact T
   have n:Hid (iP O (q:Int) x=(List.range k).map (bG O x)):=by show _=_;unfold iP;rw[aZ8,L1 s (by omega) Z.out (AP (.inl (by rw[<-G.out];exact T)))]
   clear T;go_wp2_with fail;go_ret;exact⟨_,rfl,by rw[n.out];exact V.mono (by omega),m.bel⟩
  .have hb:(E !=0)=true:=by rw[bne_iff_ne];exact T
   obtain⟨C,Ar⟩:∃C:Nat,E=(C:Int):=⟨E.toNat,by omega⟩
   subst Ar;have u:C<q:=by omega
   have r:=Y.cell C (by rw[rZ];exact u);have Au:=Y.frozen C;have π:(oO O x q k).getD C false=((List.range k).map (bG O x)).contains (C:Int):=by rw[aZ4,tM u];rfl
   rw[π] at r;clear π T;by_cases H:((List.range k).map (bG O x)).contains (C:Int)=true
   .rw[H] at r;have n:Hid (iP O (q:Int) x=(List.range k).map (bG O x)):=by
     show _=_;unfold iP;rw[aZ8,L1 s (by omega) Z.out (by unfold kZ;rw[<-G.out,H,Bool.or_true])]
    clear H;go_wp2_with fail;go_ret;exact⟨_,rfl,by rw[n.out];exact V.mono (by omega),m.bel⟩
   .rw[Bool.not_eq_true] at H;rw[H] at r;have Af:Hid (∀j,1<=j->j<k+1->kZ O x j=false):=aD fun j K Aj=>by
     by_cases e:j=k
     .subst e;unfold kZ;rw[<-G.out,H,Bool.or_false,beq_eq_false_iff_ne];have:=bne_iff_ne.1 hb;exact this
     .exact Z.out j K (by omega)
    clear H;have ζ:Hid (RB (wr.setCell ⟨S,C,none⟩ (.bool true)) S (oO O x q (k+1))):=by have:=Y.set C true;rw[DD u G.out.symm] at this;exact this
    have Ac:Hid (OI (w.heap.size+1) (wr.setCell ⟨S,C,none⟩ (.bool true)) (.slice A k c) ((List.range k).map (bG O x))):=
     V.grown (bF wr S C _) fun g hg e=>V.ne_blk Y.out (by decide) (by rw[hg,e])
    have U:=zh (m.far (k:=C) θ (.bool true));have ξ:=U.lt;have I:=zh (BR.mk' (w0:=w) Ac U.bel ξ (C:Int));have σ:Hid ((List.range k).map (bG O x)++[(C:Int)]=(List.range (k+1)).map (bG O x)):=by show _=_;rw[List.range_succ,List.map_append,G.out];rfl
    have Ak:((List.range k).map (bG O x)).length+1<=17592186044416:=by simp;omega
    have φ:Hid (((wr.setCell ⟨S,C,none⟩ (.bool true)).alloc (.cells #[.int .i64 (C:Int)] 3)).cell? ⟨wr.heap.size,0,none⟩=some (.int .i64 (C:Int))):=by have:=I.box;rw[show(wr.setCell ⟨S,C,none⟩ (.bool true)).heap.size=wr.heap.size by simp[World.setCell]] at this;exact this
    have ν:((List.range k).map (bG O x)++[(C:Int)]).length=k+1:=by simp
    have z:=zh ν;clear ξ ν;go_wp2_with (at_builtin;go_must (refine fF rfl _ _ rfl (w.heap.size+1) _ ((List.range k).map (bG O x)) rfl I.own wr.heap.size 1 (C:Int) rfl φ Ak I.up ?_);(intro Ay w2 d hg);obtain⟨ρ,Ah,rfl⟩:=d.form';rw[z.out,σ.out] at d;rw[z.out];have N:=zh d;have τ:=zh (I.below (by omega) hg);have Ad:Hid (RB w2 S (oO O x q (k+1))):=aD (RB.grown (ζ.alloc _) hg (fun e=>I.own.ne_blk (ζ.alloc _) (by decide) e.symm));have F:Hid (cV w w2 P M mv):=aD ⟨Blk.grown (U.blk.alloc _) hg (fun e=>I.own.ne_blk (U.blk.alloc _) (by decide) e.symm),τ.out⟩;clear d hg;have c0:=F.c0;have c1:=F.c1;have c2:=F.c2)
    have b:0<=(C:Int)/\(C:Int)<aC P M:=⟨Ap,by rw[o.out];exact Aq⟩
    have l:0<=x/\x<aC P M:=⟨by omega,by rw[o.out];exact t⟩
    refine(uY _ P M C x mv Mod (ω.below F.bel zr) J b.1 b.2 l.1 l.2).mono ?_;rintro e Az ⟨rfl,a⟩;have Aa:Hid (EF P M Mod C x=bG O x (k+1)):=by show _=O.mul (bG O x k) x;rw[LH J.out b l,W.out,<-W.out,<-G.out,W.out];rfl
    have ψ:=zh (F.on a);have Ae:=zh (Ad.belowS a);have Ab:=zh (N.below a zr);clear a b l c0 c1 c2;go_wp2_with fail;exact⟨⟨k+1,ρ,Ah,_,by omega,rfl,rfl,Aa,Ab,Ae,Af,ψ⟩,by simp only[L0];omega⟩
theorem SL{P M x:Int}{Mod:LI}(A:aC P M≠0)(k:Nat):0<=(iP (aB P M Mod) (aC P M) x).getD k 0/\(iP (aB P M Mod) (aC P M) x).getD k 0<aC P M:=by
 unfold iP;by_cases h:k<iB (aB P M Mod) x (aC P M).toNat 1
 .have:((List.range (iB (aB P M Mod) x (aC P M).toNat 1)).map (bG (aB P M Mod) x)).getD k 0=bG (aB P M Mod) x k:=by simp[List.getD,h]
  rw[this];exact nC A x k
 .rw[aW (by simp;omega)];have:=cG A;omega
theorem GV{P M x:Int}{Mod:LI}:(iP (aB P M Mod) (aC P M) x).length<=(aC P M).toNat+1:=by
 unfold iP;rw[aY7,List.length_range];have key:∀f k,iB (aB P M Mod) x f k<=k+f:=by
  intro f
  induction f with
  |zero=>intro k;rw[iB];omega
  |succ f ih=>
   intro k;rw[iB];split
   .omega
   .have:=ih (k+1);omega
 have:=key (aC P M).toNat 1;omega
def XR(w:World)(xs:LI)(e:Ending)(w':World):Prop:=∃u,e=.returned u/\OI w.heap.size w' u xs/\(xs=[]->u=.slice none 0 0)/\Below w.heap.size w w'
theorem nM(w:World)(P M:Int)(mv:Value)(Mod:LI)(h:SI w mv Mod)(F:lW P M Mod):
  Calls Tryz.prog 86 #[.agg #[.int .i64 P,.int .i64 M,mv],.int .i64 (aC P M)] w (XR w (sZ (aB P M Mod) (aC P M))):=by
 have Z:=zh h;clear h;have Ac:=zh F;have χ:=cG F.1;have ψ:=aK P M;obtain⟨q,hq⟩:∃q:Nat,aC P M=(q:Int):=⟨(aC P M).toNat,by omega⟩
 have U:=zh (fun w' (hb:Below w.heap.size w w') x (ξ:1<=x) (π:x<aC P M)=>JY w' P M x mv Mod (Z.below hb zr) F ξ π);have V:=zh (fun x k=>SL (P:=P) (M:=M) (x:=x) (Mod:=Mod) F.1 k);have T:=zh (fun x=>GV (P:=P) (M:=M) (x:=x) (Mod:=Mod));have j:=zh (fun w' (hb:Below w.heap.size w w') y x (a:0<=y) (b:y<aC P M) (c:0<=x) (d:x<aC P M)=>uY w' P M y x mv Mod (Z.below hb zr) F a b c d);have f:=zh (fun y x (a:0<=y/\y<aC P M) (b:0<=x/\x<aC P M)=>LH F a b);rw[hq] at U V T j f χ ψ|-;clear hq F;obtain⟨O,hO⟩:∃O,O=aB P M Mod:=⟨_,rfl⟩
 rw[<-hO] at U V T|-;have θ:=zh hO;clear hO;have Ak:q<=256:=by omega
 have Aj:1<q:=by omega
 have R:=zh (cV.mk' w P M mv);go_enter Tryz.func86,Tryz.ntmps86;go_wp2_with fail;obtain⟨w0,z⟩:∃w0,w0=w.alloc (.cells #[.int .i64 P,.int .i64 M,mv] 24):=⟨_,rfl⟩
 rw[<-z] at R|-;clear z;have Y:Hid (sZ O (q:Int)=sY O (q:Int) (q-1) ((1:Nat):Int)):=by show _=_;unfold sZ;rw[show((q:Int)-1).toNat=q-1 by omega];rfl
 go_loopw [5] (fun x wr=>∃k:Nat,1<=k/\k<=q/\x=.int .i64 (k:Int)/\Hid (sZ O (q:Int)=sY O (q:Int) (q-k) (k:Int))/\Hid (cV w wr P M mv)) (fun x _=>(q-intOf x).toNat)
 case atStart=>exact⟨1,Nat.le_refl _,by omega,rfl,Y,R⟩
 case round=>
  clear Y R;obtain⟨k,Ag,Ah,rfl,L,D⟩:=hrel;have c0:=D.c0;have c1:=D.c1;have c2:=D.c2;by_cases Ai:k<q
  .go_wp2_with fail;refine(U _ D.bel (k:Int) (by omega) (by omega)).mono ?_;rintro e w1 ⟨An,rfl,u,ρ⟩;have N:=zh u;clear u;have G:=zh (D.on ρ);have Al:IntKind.i64.wrap ((q:Int)-1)=(q:Int)-1:=IntWalk.i64_in _ (by omega);have δ:IntKind.i64.wrap ((q:Int)-2)=(q:Int)-2:=IntWalk.i64_in _ (by omega);have τ:=T.out (k:Int);obtain⟨n,hn⟩:∃n,(iP O (q:Int) (k:Int)).length=n:=⟨_,rfl⟩
   rw[hn] at τ;have C:=zh hn;clear hn;have m:=G.c0;have o:=G.c1;have p:=G.c2;clear c0 c1 c2;by_cases Q:(n:Int)=(q:Int)-1
   .have hb:((n:Int)==(q:Int)-1)=true:=by rw[beq_iff_eq];exact Q
    obtain rfl:n=q-1:=by omega
    have Am:IntKind.i64.wrap ((q:Int)-2)=((q-2:Nat):Int):=by rw[δ];omega
    clear δ;obtain⟨g,c,rfl,Ad,Ae⟩:=N.form (by rw[C.out];omega);have ε:=N.cell (q-2) (by rw[C.out];omega);have X:=V.out (k:Int) (q-2);have E:Hid (lH O (q:Int) (k:Int)=((((q-1:Nat):Int)==(q:Int)-1)&&(EF P M Mod ((iP O (q:Int) (k:Int)).getD (q-2) 0) (k:Int)==1))):=by show _=_;rw[f.out _ _ X ⟨by omega,by omega⟩];unfold lH;rw[C.out,show((q:Int)-2).toNat=q-2 by omega,θ.out];rfl
    rw[C.out];generalize hv:(iP O (q:Int) (k:Int)).getD (q-2) 0=v at ε X E;have ι:=zh hv;clear hv;obtain⟨ω,Aa⟩:=X;have Af:q-2<q-1:=by omega
    rw[hb,Bool.true_and] at E;generalize hmv:EF P M Mod v (k:Int)=Ab at E;have η:=zh hmv;clear hmv;clear Q;go_wp2_with fail;refine aG.start (S:=fun w'=>w'.cell? ⟨w.heap.size,0,none⟩=some (.int .i64 P)/\w'.cell? ⟨w.heap.size,1,none⟩=some (.int .i64 M)/\w'.cell? ⟨w.heap.size,2,none⟩=some mv/\w'.cell? ⟨g,q-2,none⟩=some (.int .i64 v)) (by kernel_rfl) (⟨m,o,p,ε⟩) (fun B=>?_);change aG _ _ _ _ 16 _ _ _;refine tq 0 ?_;refine tq 1 ?_;refine tq 2 ?_;refine tq 3 ?_;refine tq 4 ?_;refine tq 5 ?_;refine tq 6 ?_;refine tq 7 ?_;refine tq 8 ?_;refine tq 9 ?_;refine tq 10 ?_;refine tq 11 ?_;refine tq 12 ?_;try simp only[tz]
    refine aG.only (i:=13) (by kernel_rfl) rfl (fun K hK=>?_);go_simp;refine(j _ G.drew.bel v (k:Int) ω Aa (by omega) (by omega)).mono ?_;rintro e w2 ⟨rfl,W⟩;rw[η.out];have I:=zh (G.drew.on W);have l:=zh ((OI.keep (w':=w1.drew) N (fun _ _=>rfl)).below W zr);clear W;have κ:=I.c0;have μ:=I.c1;have ν:=I.c2;have r:=l.cell (q-2) (by rw[C.out];omega);rw[ι.out] at r;refine hK.out _ _ (⟨κ,μ,ν,r⟩) ?_;clear hK K B;intro B;try simp only[tz]
    refine tq 14 ?_;try simp only[tz]
    refine aG.only (i:=15) (by kernel_rfl) rfl (fun K hK=>?_);go_simp;refine hK.out _ _ B (fun J=>?_);clear hK K;clear J;refine aG.done (by kernel_rfl) ?_;try simp only[tz]
    clear B;have φ:=D.lt;cases hm:(Ab==1)
    .rw[hm] at E;have H:Hid (sZ O (q:Int)=sY O (q:Int) (q-(k+1)) ((k+1:Nat):Int)):=by
      show _=_;rw[L.out,show q-k=(q-(k+1))+1 by omega,sY,E.out];simp
     clear hb;go_wp2_with fail;exact⟨⟨k+1,by omega,by omega,by push_cast;rfl,H,I⟩,by simp only[intOf];omega⟩
    .rw[hm] at E;have H:Hid (sZ O (q:Int)=iP O (q:Int) (k:Int)):=by
      show _=_;rw[L.out,show q-k=(q-(k+1))+1 by omega,sY,E.out];simp
     clear hb;go_wp2_with fail;go_ret;exact⟨_,rfl,by rw[H.out];have t:=l.mono (Nat.le_of_lt φ);rw[C.out] at t;exact t,fun h=>(by rw[H.out] at h;have s:=C.out;rw[h] at s;simp at s;omega),I.bel⟩
   .have hb:((n:Int)==(q:Int)-1)=false:=by rw[beq_eq_false_iff_ne];exact Q
    have H:Hid (sZ O (q:Int)=sY O (q:Int) (q-(k+1)) ((k+1:Nat):Int)):=by
     show _=_;have σ:lH O (q:Int) (k:Int)=false:=by unfold lH;rw[C.out,hb,Bool.false_and]
     rw[L.out,show q-k=(q-(k+1))+1 by omega,sY,σ];simp
    clear Q;obtain⟨A,c,rfl⟩:=N.form';rw[C.out];go_wp2_with fail;refine aG.start (S:=fun w'=>w'.cell? ⟨w.heap.size,0,none⟩=some (.int .i64 P)/\w'.cell? ⟨w.heap.size,1,none⟩=some (.int .i64 M)/\w'.cell? ⟨w.heap.size,2,none⟩=some mv) (by kernel_rfl) (⟨m,o,p⟩) (fun B=>?_);change aG _ _ _ _ 16 _ _ _;refine tq 0 ?_;refine tq 1 ?_;refine tq 2 ?_;refine tq 3 ?_;refine tq 4 ?_;refine tq 5 ?_;try simp only[tz]
    refine aG.take (i:=6) (v:=undef) rfl (by kernel_rfl) (by kernel_rfl) (by kernel_rfl) (fun _ _ _ h=>h) (Or.inr ⟨by kernel_rfl,rfl⟩) B ?_;try simp only[tz]
    refine aG.take (i:=7) (v:=undef) rfl (by kernel_rfl) (by kernel_rfl) (by kernel_rfl) (fun _ _ _ h=>h) (Or.inr ⟨by kernel_rfl,rfl⟩) B ?_;try simp only[tz]
    refine aG.take (i:=8) (v:=undef) rfl (by kernel_rfl) (by kernel_rfl) (by kernel_rfl) (fun _ _ _ h=>h) (Or.inr ⟨by kernel_rfl,rfl⟩) B ?_;try simp only[tz]
    refine aG.take (i:=9) (v:=undef) rfl (by kernel_rfl) (by kernel_rfl) (by kernel_rfl) (fun _ _ _ h=>h) (Or.inr ⟨by kernel_rfl,rfl⟩) B ?_;try simp only[tz]
    refine aG.take (i:=10) (v:=undef) rfl (by kernel_rfl) (by kernel_rfl) (by kernel_rfl) (fun _ _ _ h=>h) (Or.inr ⟨by kernel_rfl,rfl⟩) B ?_;try simp only[tz]
    refine aG.take (i:=11) (v:=undef) rfl (by kernel_rfl) (by kernel_rfl) (by kernel_rfl) (fun _ _ _ h=>h) (Or.inr ⟨by kernel_rfl,rfl⟩) B ?_;try simp only[tz]
    refine aG.take (i:=12) (v:=undef) rfl (by kernel_rfl) (by kernel_rfl) (by kernel_rfl) (fun _ _ _ h=>h) (Or.inr ⟨by kernel_rfl,rfl⟩) B ?_;try simp only[tz]
    refine aG.only (i:=13) (by kernel_rfl) rfl (fun K hK=>?_);go_simp;refine hK.out _ _ B (fun J=>?_);clear hK K;clear J;try simp only[tz]
    refine aG.take (i:=14) (v:=undef) rfl (by kernel_rfl) (by kernel_rfl) (by kernel_rfl) (fun _ _ _ h=>h) (Or.inr ⟨by kernel_rfl,rfl⟩) B ?_;try simp only[tz]
    refine aG.only (i:=15) (by kernel_rfl) rfl (fun K hK=>?_);go_simp;refine hK.out _ _ B (fun J=>?_);clear hK K;clear J;refine aG.done (by kernel_rfl) ?_;try simp only[tz]
    clear B;go_wp2_with fail;exact⟨⟨k+1,by omega,by omega,by push_cast;rfl,H,aD G.drew⟩,by simp only[intOf];omega⟩
  .obtain rfl:q=k:=by omega
   have ζ:Hid (sZ O (q:Int)=[]):=by show _=_;rw[L.out,Nat.sub_self];rfl
   go_wp2_with fail;go_ret;exact⟨_,rfl,by rw[ζ.out];exact OI.nil _ _,fun _=>rfl,D.bel⟩
end Go.Proofs.YtpfhoemohibniaaGreatDoor
namespace Go.Proofs.YtpfhoemohibniaaGreatDoor
def kR(E:LI)(q:Nat):Nat->LI
 |0=>List.replicate q 0
 |k+1=>(kR E q k).set (E.getD k 0).toNat (k:Int)
theorem rV(E:LI)(q:Nat):∀k,(kR E q k).length=q
 |0=>by simp[kR]
 |k+1=>by rw[kR,aZ9,rV E q k]
theorem CM(E:LI)(q:Nat):∀k i,0<=(kR E q k).getD i 0/\((kR E q k).getD i 0<k\/(kR E q k).getD i 0=0)
 |0,i=>by
  have:(kR E q 0).getD i 0=0:=by unfold kR;by_cases h:i<q<;>simp[List.getD,h]
  rw[this];omega
 |k+1,i=>by have A:=CM E q k i;rw[kR,kN];split<;>omega
theorem CK{E:LI}{q n:Nat}(A:∀k,k<n->0<=E.getD k 0/\E.getD k 0<(q:Int))(hi:∀i j,i<n->j<n->E.getD i 0=E.getD j 0->i=j):∀k,k<=n->∀j,j<k->(kR E q k).getD (E.getD j 0).toNat 0=(j:Int)
 |0,_,j,h=>by omega
 |k+1,hk,j,hj=>by
  have B:=A k (by omega);have C:=A j (by omega);rw[kR,kN,rV];by_cases e:j=k
  .subst e;rw[if_pos ⟨rfl,by omega⟩]
  .rw[if_neg (fun h=>e (hi j k (by omega) (by omega) (by have:=h.1;omega)))];exact CK A hi k (by omega) j (by omega)
structure yE(O:aO)(q:Nat)(E L:LI):Prop where
 el:E.length=q-1
 ll:L.length=q
 gen:∃x,cR (q:Int) x/\fV O x (q-1)/\∀k,k<q-1->E.getD k 0=bG O x k
 lo:∀k,k<q-1->L.getD (E.getD k 0).toNat 0=(k:Int)
 rng:∀i,0<=L.getD i 0/\(L.getD i 0<q-1\/L.getD i 0=0)
section
variable {O:aO} {q:Nat} {E L:LI} (hO:O.Fld (q:Int))
include hO
theorem LS{x:Int}(B:cR (q:Int) x){n:Nat}(h:fV O x n){i j:Nat}(hi:i<n)(C:j<n)(e:bG O x i=bG O x j):i=j:=by
 rcases Nat.lt_trichotomy i j with A|A|A
 .exact absurd (vE hO B (by omega) e) (h.2.2 (j-i) (by omega) (by omega))
 .exact A
 .exact absurd (vE hO B (by omega) e.symm) (h.2.2 (i-j) (by omega) (by omega))
theorem XF{x:Int}(B:cR (q:Int) x)(h:fV O x (q-1)):yE O q ((List.range (q-1)).map (bG O x)) (kR ((List.range (q-1)).map (bG O x)) q (q-1)):=by
 have hg:∀k,k<q-1->((List.range (q-1)).map (bG O x)).getD k 0=bG O x k:=fun k A=>by simp[List.getD,A]
 refine⟨by simp,rV _ _ _,⟨x,B,h,hg⟩,fun k A=>?_,fun i=>?_⟩
 .refine CK (n:=q-1) (fun k A=>?_) (fun i j hi C e=>?_) (q-1) zr k A
  .rw[hg k A];have:=bV hO B k;exact⟨by have:=this.1;omega,this.2⟩
  .rw[hg i hi,hg j C] at e;exact LS hO B h hi C e
 .have:=CM ((List.range (q-1)).map (bG O x)) q (q-1) i;have:=hO.lt.pos;omega
theorem yE.unit(h:yE O q E L){k:Nat}(A:k<q-1):cR (q:Int) (E.getD k 0):=by obtain⟨x,B,_,hg⟩:=h.gen;rw[hg k A];exact bV hO B k
theorem yE.hit(h:yE O q E L){y:Int}(C:cR (q:Int) y):∃k,k<q-1/\E.getD k 0=y/\L.getD y.toNat 0=(k:Int):=by
 obtain⟨x,A,J,hg⟩:=h.gen;obtain⟨k,B,P⟩:=kP (q-1) (fun i=>(bG O x i).toNat-1) (fun i hi=>by
  have:=bV hO A i;have D:=this.1;have H:=this.2;omega) (fun i j hi I e=>LS hO A J hi I (by
  have a:=bV hO A i;have b:=bV hO A j;have G:=a.1;have K:=a.2;have M:=b.1;have N:=b.2;omega)) (y.toNat-1) (by have D:=C.1;have H:=C.2;omega)
 have a:=bV hO A k;have F:E.getD k 0=y:=by rw[hg k B];have G:=a.1;have D:=C.1;omega
 refine⟨k,B,F,?_⟩;rw[<-F];exact h.lo k B
theorem LT{x:Int}(A:cR (q:Int) x){n:Nat}(h:fV O x n)(m:Nat):bG O x (m%n)=bG O x m:=by have e:m=n*(m/n)+m%n:=(Nat.div_add_mod m n).symm;conv=>rhs;rw[e,mN hO A,mO hO A,h.2.1,gM hO,gN hO (bV hO A _)]
theorem yE.mul(h:yE O q E L){y z:Int}(H:cR (q:Int) y)(I:cR (q:Int) z):
  (L.getD y.toNat 0+L.getD z.toNat 0)%((q:Int)-1)<(q:Int)-1/\0<=(L.getD y.toNat 0+L.getD z.toNat 0)%((q:Int)-1)/\
  E.getD ((L.getD y.toNat 0+L.getD z.toNat 0)%((q:Int)-1)).toNat 0=O.mul y z:=by
 obtain⟨i,hi,B,J⟩:=h.hit hO H;obtain⟨j,D,C,K⟩:=h.hit hO I;obtain⟨x,A,G,hg⟩:=h.gen;rw[J,K];have hq:((q:Int)-1)=((q-1:Nat):Int):=by omega
 have hm:((i:Int)+(j:Int))%((q:Int)-1)=(((i+j)%(q-1):Nat):Int):=by rw[hq];push_cast;rfl
 have F:=Nat.mod_lt (i+j) (show q-1>0 by omega);rw[hm];refine⟨by omega,by omega,?_⟩;rw[aZ8,hg _ F,LT hO A G,mN hO A,<-hg i hi,<-hg j D,B,C]
theorem yE.inv(h:yE O q E L){y:Int}(A:cR (q:Int) y)(hi:0<=O.inv y/\O.inv y<(q:Int)):
  ((q:Int)-1-L.getD y.toNat 0)%((q:Int)-1)<(q:Int)-1/\0<=((q:Int)-1-L.getD y.toNat 0)%((q:Int)-1)/\
  E.getD (((q:Int)-1-L.getD y.toNat 0)%((q:Int)-1)).toNat 0=O.inv y:=by
 obtain⟨i,G,F,J⟩:=h.hit hO A;obtain⟨x,B,D,hg⟩:=h.gen;rw[J];have hq:((q:Int)-1)=((q-1:Nat):Int):=by omega
 have hm:((q:Int)-1-(i:Int))%((q:Int)-1)=(((q-1-i)%(q-1):Nat):Int):=by rw[hq,show((q-1:Nat):Int)-(i:Int)=((q-1-i:Nat):Int) by omega];push_cast;rfl
 have I:=Nat.mod_lt (q-1-i) (show q-1>0 by omega);rw[hm];refine⟨by omega,by omega,?_⟩;rw[aZ8,hg _ I,LT hO B D];have H:cR (q:Int) (O.inv y):=by
  refine⟨?_,hi.2⟩;have:O.inv y≠0:=fun e=>by have C:=hO.mul_inv y A.1 A.2;rw[e,hO.mul_zero] at C;cases C
  omega
 refine xC hO A (bV hO B _) H ?_;rw[hO.mul_inv y A.1 A.2,<-F,hg i G,<-mN hO B,show i+(q-1-i)=q-1 by omega,D.2.1]
end
def gF(p:Int)(f:Nat->Int):Nat->Int
 |0=>0
 |k+1=>gF p f k+f k*p^k
theorem tI(p:Int)(f:Nat->Int):∀m,gF p f (m+1)=gF p (fun i=>f (i+1)) m*p+f 0
 |0=>by simp[gF]
 |m+1=>by have A:=tI p f m;rw[gF,A,gF,Int.add_mul,Int.pow_succ];have:f (m+1)*(p^m*p)=f (m+1)*p^m*p:=(aY8 _ _ _).symm;rw[this];omega
theorem pI{p:Int}{f g:Nat->Int}:∀{m},(∀i,i<m->f i=g i)->gF p f m=gF p g m
 |0,_=>rfl
 |m+1,h=>by rw[gF,gF,pI fun i hi=>h i (by omega),h m (by omega)]
theorem wK(p:Int):∀(m:Nat) (f:Nat->Int),bL p (aQ m f)=gF p f m
 |0,f=>rfl
 |m+1,f=>by
  rw[tI,<-wK p m];have:aQ (m+1) f=f 0::aQ m (fun i=>f (i+1)):=by unfold aQ;rw[List.range_succ_eq_map,List.map_cons,List.map_map];rfl
  rw[this,bL]
theorem GX{p:Int}{f:Nat->Int}{k m:Nat}(h:k<=m)(A:∀i,k<=i->i<m->f i=0):gF p f m=gF p f k:=by
 obtain⟨d,rfl⟩:∃d,m=k+d:=⟨m-k,by omega⟩
 induction d with
 |zero=>rfl
 |succ d ih=>rw[<-Nat.add_assoc,gF,ih (by omega) (fun i B C=>A i B (by omega)),A (k+d) (by omega) (by omega)];simp
theorem EP{p:Int}(C:2<=p){f:Nat->Int}(A:∀i,0<=f i/\f i<p):∀m,0<=gF p f m/\gF p f m<p^m
 |0=>by simp[gF]
 |m+1=>by
  obtain⟨D,E⟩:=EP C A m;obtain⟨B,F⟩:=A m;have J:0<p^m:=Int.pow_pos (by omega);have G:0<=f m*p^m:=Int.mul_nonneg B (by omega);have H:f m*p^m<=(p-1)*p^m:=Int.mul_le_mul_of_nonneg_right (by omega) (by omega);have I:(p-1)*p^m=p^m*p-p^m:=by rw[Int.sub_mul,Int.one_mul,Int.mul_comm]
  rw[gF,Int.pow_succ];omega
def adg(p x y:Int)(i:Nat):Int:=(x/p^i%p+y/p^i%p)%p
def ndg(p x:Int)(i:Nat):Int:=(p-x/p^i%p)%p
theorem WK{p:Int}(A:2<=p)(x y:Int)(i:Nat):0<=adg p x y i/\adg p x y i<p:=⟨Int.emod_nonneg _ (by omega),Int.emod_lt_of_pos _ (by omega)⟩
theorem W7{p:Int}(A:2<=p)(x:Int)(i:Nat):0<=ndg p x i/\ndg p x i<p:=⟨Int.emod_nonneg _ (by omega),Int.emod_lt_of_pos _ (by omega)⟩
theorem nL{p:Int}(A:2<=p)(x:Int)(k:Nat):x/p^k/p=x/p^(k+1):=by rw[Int.ediv_ediv_of_nonneg (Int.le_of_lt (Int.pow_pos (by omega))),Int.pow_succ]
theorem yZ{p:Int}(A:2<=p){x:Int}{k:Nat}(h:x/p^k=0):∀i,k<=i->x/p^i=0:=fun i hi=>by
 obtain⟨d,rfl⟩:∃d,i=k+d:=⟨i-k,by omega⟩
 rw[Int.pow_add,<-Int.ediv_ediv_of_nonneg (Int.le_of_lt (Int.pow_pos (by omega))),h,Int.zero_ediv]
theorem L6{P M:Int}(x y:Int):dT P M x y=gF P (adg P (inQ (aC P M) x) (inQ (aC P M) y)) M.toNat:=by unfold dT;rw[wK];refine pI fun i hi=>?_;unfold cJ adg;rw[eI hi,eI hi]
theorem N1{P M:Int}(x:Int):fZ P M x=gF P (ndg P (inQ (aC P M) x)) M.toNat:=by unfold fZ;rw[wK];refine pI fun i hi=>?_;unfold cJ ndg;rw[eI hi]
theorem WU{q x:Int}:inQ q (inQ q x)=inQ q x:=by
 unfold inQ;by_cases h:0<=x/\x<q
 .rw[if_pos h,if_pos h]
 .rw[if_neg h];split<;>rfl
theorem DZ(P M x:Int):cJ P M (inQ (aC P M) x)=cJ P M x:=by unfold cJ;rw[WU]
theorem LJ(P M:Int)(Mod:LI)(x y:Int):bO P M Mod (inQ (aC P M) x) (inQ (aC P M) y)=bO P M Mod x y:=by unfold bO;rw[DZ,DZ]
theorem GL(P M:Int)(Mod:LI)(x y:Int):bO P M Mod (inQ (aC P M) x) y=bO P M Mod x y:=by unfold bO;rw[DZ]
theorem F5(P M:Int)(Mod:LI)(x:Int):∀k,dM P M Mod (inQ (aC P M) x) k=dM P M Mod x k
 |0=>rfl
 |k+1=>by rw[dM,dM,F5 P M Mod x k,GL]
theorem UV(P M:Int)(Mod:LI)(x:Int):fJ P M Mod (inQ (aC P M) x)=fJ P M Mod x:=F5 P M Mod x _
theorem IN:∀(m x y:Nat),x<2^m->y<2^m->gF 2 (adg 2 (x:Int) (y:Int)) m=((x^^^y:Nat):Int)
 |0,x,y,hx,hy=>by
  obtain rfl:x=0:=by simpa using hx
  obtain rfl:y=0:=by simpa using hy
  rfl
 |m+1,x,y,hx,hy=>by
  rw[Nat.pow_succ] at hx hy;have F:=IN m (x/2) (y/2) (by omega) (by omega);have e:∀i,adg 2 (x:Int) (y:Int) (i+1)=adg 2 ((x/2:Nat):Int) ((y/2:Nat):Int) i:=fun i=>by
   have A:∀z:Nat,((z:Int))/2^(i+1)=((z/2:Nat):Int)/2^i:=fun z=>by rw[Int.pow_succ,Int.mul_comm,<-Int.ediv_ediv_of_nonneg (by omega)];push_cast;rfl
   unfold adg;rw[A,A]
  have C:adg 2 (x:Int) (y:Int) 0=(((x+y)%2:Nat):Int):=by unfold adg;simp
  rw[tI,pI fun i _=>e i,F,C];have D:(x^^^y)/2=x/2^^^y/2:=Nat.xor_div_two;have E:(x^^^y)%2=(x+y)%2:=by have h:=Nat.xor_mod_two_pow (a:=x) (b:=y) (n:=1);rw[Nat.pow_one] at h;rw[h];rcases Nat.mod_two_eq_zero_or_one x with B|B<;>rcases Nat.mod_two_eq_zero_or_one y with A|A<;>rw[B,A,Nat.add_mod,B,A]<;>decide
  rw[<-D,<-E];omega
end Go.Proofs.YtpfhoemohibniaaGreatDoor
