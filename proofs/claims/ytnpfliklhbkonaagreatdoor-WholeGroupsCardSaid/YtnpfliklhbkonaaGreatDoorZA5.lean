/- Parts. -/
import Derived.Test.YtnpfliklhbkonaaGreatDoorZA3
import Derived.Test.YtnpfliklhbkonaaGreatDoorZA4
import Derived.Deep.Cut
import Derived.Deep.CutRange
import Derived.ArgAppend
import Derived.Deep.Upon
import Derived.Maps.RangeRun
import Derived.MapKept
set_option maxRecDepth 99999
set_option maxHeartbeats 0
set_option linter.unusedSimpArgs false
set_option linter.unusedVariables false
namespace Go.Proofs.YtnpfliklhbkonaaGreatDoor
open Go.Proofs.Tryz
section
theorem BV:∀{a b:LI},a.Pairwise (· < ·)->b.Pairwise (· < ·)->(∀x,x∈a↔x∈b)->a=b
 |[],[],_,_,_=>rfl
 |[],y::b,_,_,h=>aB ((h y).2 List.mem_cons_self) List.not_mem_nil
 |x::a,[],_,_,h=>aB ((h x).1 List.mem_cons_self) List.not_mem_nil
 |x::a,y::b,ha,hb,h=>by
  have C:=List.pairwise_cons.1 ha;have D:=List.pairwise_cons.1 hb;have E:x=y:=by
   rcases List.mem_cons.1 ((h x).1 List.mem_cons_self) with e|e
   .exact e
   .rcases List.mem_cons.1 ((h y).2 List.mem_cons_self) with B|B
    .exact B.symm
    .have F:=D.1 x e;have G:=C.1 y B;omega
  subst E;rw[BV C.2 D.2 fun z=>?_];constructor
  .intro A;rcases List.mem_cons.1 ((h z).1 (List.mem_cons_of_mem _ A)) with e|e
   .have:=C.1 z A;omega
   .exact e
  .intro A;rcases List.mem_cons.1 ((h z).2 (List.mem_cons_of_mem _ A)) with e|e
   .have:=D.1 z A;omega
   .exact e
structure vP(Γ:LI->Prop)(n b:Nat)(orbit:LI)(reps:LL):Prop where
 asc:orbit.Pairwise (· < ·)
 mem:∀x:Int,x∈orbit↔∃q,Γ q/\dN b q/\q b 0=x
 len:reps.length=orbit.length
 rep:∀k,k<orbit.length->∃r,Γ r/\dN b r/\r b 0=orbit k 0/\StC Γ n b r n (reps k [])
theorem tB{n:Nat}{Γ:LI->Prop}(hΓ:lQ n Γ){b:Nat}(F:b<n){o C:LI}{D E:LL}(h:vP Γ n b o D)(A:vP Γ n b C E):o=C/\D=E:=by have G:o=C:=BV h.asc A.asc fun x=>(h.mem x).trans (A.mem x).symm;subst G;refine⟨rfl,eK (by rw[h.len,A.len]) fun k B P=>?_⟩;rw[h.len] at B;obtain⟨r,H,I,J,K⟩:=h.rep k B;obtain⟨Q,L,M,N,O⟩:=A.rep k B;have:=N1 hΓ F H L I M (J.trans N.symm) K O;simpa[List.getD,h.len,A.len,B] using this
theorem IG{R:fH}{G:jM}{n b:Nat}(h:iR n 0 R G)(E:b<n){x:Nat}:(∃r,R b x=some r)↔∃q,GenP n (G 0) q/\dN b q/\q b 0=(x:Int):=by
 have F:=rJ h.rep (f:=n-0) (b:=0) rfl (aZ5 _) h.comp (fun g O=>(h.last g O).elim);have P:∀c,c<=n->∀p,Ch R n c p->Ch R n 0 p:=fun c=>by
  induction c with
  |zero=>intro _ p H;exact H
  |succ c ih=>intro U p H;exact ih om p (ig h.rep om H)
 have J:∀c,c<=b->∀q,Ch R n 0 q->dN b q->Ch R n c q:=fun c=>by
  induction c with
  |zero=>intro _ q hq _;exact hq
  |succ c ih=>
   intro T q hq K;obtain⟨Q,y,r,A,B,C⟩:=(oD h.rep (show c<n from om)).1 (ih om q hq K);have D:q c 0=(y:Int):=by rw[C,bQ (by rw[A.1.len];omega),A.2.1 c om,aZ8,h.rep.to _ _ _ B]
   rw[K c om] at D;obtain rfl:y=c:=om;rw[h.rep.self y om] at B;obtain rfl:=aZ0 B;rw[jY A.1] at C;rw[C];exact A
 constructor
 .rintro⟨r,L⟩;have A:=NT h.rep L;exact⟨r,(F r).1 (P b om r A),A.2.1,h.rep.to _ _ _ L⟩
 .rintro⟨q,A,B,C⟩;obtain⟨Q,y,r,_,I,M⟩:=(oD h.rep E).1 (J b zr q ((F q).2 A) B);have S:=(oD h.rep E).1 (J b zr q ((F q).2 A) B);rename_i D;have N:q b 0=(y:Int):=by
   rw[M,bQ (by rw[D.1.len];exact E),D.2.1 b om,aZ8,h.rep.to _ _ _ I]
  rw[C] at N;obtain rfl:x=y:=om;exact⟨r,I⟩
theorem GC{N n:Nat}{Γ H:LI->Prop}(hΓ:lQ N Γ)(A:lQ N H)(B:∀p,H p->Γ p)(P:Nat->LI->Prop)(hn:∀p,Γ p->P n p->p=idP N)
 (step:∀i,i<n->∀p,Γ p->P i p->∃m,H m/\P (i+1) (aL p (bX m))):∀{k i:Nat},n-i=k->i<=n->∀p,Γ p->P i p->H p
 |0,i,hk,hi,p,hp,hP=>by
  obtain rfl:i=n:=om;rw[hn p hp hP];exact A.one
 |k+1,i,hk,hi,p,hp,hP=>by obtain⟨m,C,D⟩:=step i om p hp hP;have G:=hΓ.is m (B m C);have E:=GC hΓ A B P hn step (k:=k) (i:=i+1) om om _ (hΓ.mul _ _ hp (hΓ.inv _ (B m C))) D;have F:=A.mul _ _ E C;rwa[rL (hΓ.is p hp) G] at F
end
section
open Go.RowKit
theorem H7(w:Wo)(n:Nat):∃w' g,w.alloc (.cells (madeCells #[z0] n) 3)=w'/\w.heap.size=g/\RI w' g (List.replicate n 0)/\Below w w w':=
 ⟨_,_,rfl,rfl,RI.made w n,aH w _⟩
theorem DO(w:Wo)(n:Nat)(hn:n<=1000):Calls prog 26 #[n] w (sN w (idP n)):=by
 have S:=fun(w:Wo)=>dX n om w;go_enter func26,ntmps26;go_upto_region 2 with fail;obtain⟨w1,g,G,O,H,I⟩:=H7 w n;rw[G,O];have C:=zh H;have D:=zh I;clear G H I;go_wp2;go_loopw [9] (fun E wr=>∃(k:Nat) (xs:LI),k<=n/\E=(k:aV)/\xs=n/\Hid (RI wr g xs)/\Hid (∀j,j<k->xs j 0=(j:Int))/\Hid (Below w w wr)) (fun E _=>n-(intOf E).toNat)
 .exact⟨0,_,aZ5 _,rfl,eG,C,aG (fun j h=>aB h (aY5 _)),D⟩
 .
  clear C D;obtain⟨k,xs,hk,rfl,A,C,F,D⟩:=hrel;by_cases J:k<n
  .have T:=C.cell k (by rw[A];exact J);have U:=C.frozen k;go_wp2_with fail;have N:=zh (C.set k (k:Int));have Q:(xs.set k (k:Int)).length=n:=by rw[aZ9];exact A
   have M:Hid (∀j,j<k+1->(xs.set k (k:Int)).getD j 0=(j:Int)):=aG fun j R=>by
    by_cases e:k=j
    .subst e;simp[List.getD,A,J]
    .rw[show(xs.set k (k:Int)).getD j 0=xs j 0 by simp[List.getD,List.getElem?_set_ne e]];exact F.out j om
   have K:=zh (D.grown (aU wr g k (k:aV)) D.size (fun b e=>oA (aZ0 e)));exact⟨⟨k+1,_,om,pC,Q,N,M,K⟩,oI⟩
  .obtain rfl:n=k:=om;have P:xs=idP n:=qH (by rw[A,cK]) fun i hi=>by rw[F.out i (by rw[<-A];exact hi),eV (by rw[<-A];exact hi)]
   have L:Hid (OI w wr (.slice g n n) (idP n)):=aG (by have:=C.oi (B:=w.heap.size) om (by rw[A];omega);rw[A,P] at this;exact this);go_wp2;go_ret;exact⟨_,rfl,L.out,D.out⟩
theorem nS(w:Wo)(n:Nat)(u v:Va)(p q:LI)(R:SI w u p)(S:SI w v q)(I:IsP n p)(hq:IsP n q)(hn:n<=1000):Calls prog 56 #[u,v] w (sN w (aL p q)):=by
 have δ:=fun(w:Wo)=>dX n om w;have K:=zh R;have M:=zh S;have E:=zh I;have V:=zh hq;obtain⟨l,η,rfl,_⟩:=R;obtain⟨m,θ,rfl,_⟩:=S;rw[I.len] at K|-;rw[hq.len] at M|-;clear I hq;go_enter func56,ntmps56;go_upto_region 2 with fail;obtain⟨w1,g,O,Z,P,Q⟩:=H7 w n;rw[O,Z];have D:=zh P;have A:=zh Q;clear O P Q;go_wp2;go_loopw [13] (fun J wr=>∃(k:Nat) (xs:LI),k<=n/\J=(k:aV)/\xs=n/\Hid (RI wr g xs)/\Hid (∀j,j<k->xs j 0=q (p j 0).toNat 0)/\Hid (Below w w wr)) (fun J _=>n-(intOf J).toNat)
 .exact⟨0,_,aZ5 _,rfl,eG,D,aG (fun j h=>aB h (aY5 _)),A⟩
 .
  clear D A;obtain⟨k,xs,hk,rfl,C,D,L,A⟩:=hrel;by_cases F:k<n
  .obtain⟨o,y,rfl,s,_,N⟩:=(K.below A zr).elt (k:=k) (by rw[E.out.len];exact F);have G:=E.nat F;rw[N.out] at G;obtain⟨H,d⟩:∃H:Nat,y=(H:Int):=⟨y.toNat,G.2⟩
   subst d;have f:H<n:=by have:=G.1;rwa[aZ8] at this
   obtain⟨r,z,rfl,t,_,Y⟩:=(M.below A zr).elt (k:=H) (by rw[V.out.len];exact f);have ε:=D.cell k (by rw[C];exact F);have ζ:=D.frozen k;clear G;go_wp2_with fail;have X:=zh (D.set k z);have c:(xs.set k z).length=n:=by rw[aZ9];exact C
   have W:Hid (∀j,j<k+1->(xs.set k z).getD j 0=q (p j 0).toNat 0):=aG fun j x=>by
    by_cases e:k=j
    .subst e;rw[N.out,aZ8,Y.out];simp[List.getD,C,F]
    .rw[show(xs.set k z).getD j 0=xs j 0 by simp[List.getD,List.getElem?_set_ne e]];exact L.out j om
   have T:=zh (A.grown (aU wr g k (z:aV)) A.size (fun b e=>oA (aZ0 e)));exact⟨⟨k+1,_,om,pC,c,X,W,T⟩,oI⟩
  .obtain rfl:n=k:=om;have a:xs=aL p q:=qH (by rw[C,cR,E.out.len]) fun i hi=>by rw[L.out i (by rw[<-C];exact hi),bQ (by rw[E.out.len,<-C];exact hi)]
   have U:Hid (OI w wr (.slice g n n) (aL p q)):=aG (by have:=D.oi (B:=w.heap.size) om (by rw[C];omega);rw[C,a] at this;exact this);go_wp2;go_ret;exact⟨_,rfl,U.out,A.out⟩
theorem DP(w:Wo)(n:Nat)(u:Va)(p:LI)(T:SI w u p)(J:IsP n p)(hn:n<=1000):Calls prog 57 #[u] w (sN w (bX p)):=by
 have v:=fun(w:Wo)=>dX n om w;have L:=zh T;have D:=zh J;obtain⟨o,ε,rfl,_⟩:=T;rw[J.len] at L|-;clear J;go_enter func57,ntmps57;go_upto_region 2 with fail;obtain⟨w1,g,N,O,R,S⟩:=H7 w n;rw[N,O];have E:=zh R;have C:=zh S;clear N R S;go_wp2;go_loopw [11] (fun K wr=>∃(k:Nat) (xs:LI),k<=n/\K=(k:aV)/\xs=n/\Hid (RI wr g xs)/\Hid (∀j,j<k->xs (p j 0).toNat 0=(j:Int))/\Hid (Below w w wr)) (fun K _=>n-(intOf K).toNat)
 .exact⟨0,_,aZ5 _,rfl,eG,E,aG (fun j h=>aB h (aY5 _)),C⟩
 .
  clear E C;obtain⟨k,xs,hk,rfl,F,E,M,C⟩:=hrel;by_cases I:k<n
  .obtain⟨q,y,rfl,r,_,H⟩:=(L.below C zr).elt (k:=k) (by rw[D.out.len];exact I);have G:=D.nat I;rw[H.out] at G;obtain⟨A,m⟩:∃A:Nat,y=(A:Int):=⟨y.toNat,G.2⟩
   subst m;have U:A<n:=by have:=G.1;rwa[aZ8] at this
   have z:=E.cell A (by rw[F];exact U);have δ:=E.frozen A;clear G;go_wp2_with fail;have Y:=zh (E.set A (k:Int));have l:(xs.set A (k:Int)).length=n:=by rw[aZ9];exact F
   have X:Hid (∀j,j<k+1->(xs.set A (k:Int)).getD (p j 0).toNat 0=(j:Int)):=aG fun j s=>by
    by_cases e:j=k
    .subst e;rw[H.out,aZ8];simp[List.getD,F,U]
    .have Z:A≠(p j 0).toNat:=fun O=>e (D.inj j k om I (by have:=(D.nat (i:=j) om).2;rw[H.out];omega));have a:∀t,A≠t->(xs.set A (k:Int)).getD t 0=xs t 0:=fun t c=>by simp[List.getD,List.getElem?_set_ne c]
     rw[a _ Z];exact M.out j om
   have V:=zh (C.grown (aU wr g A (k:aV)) C.size (fun b e=>oA (aZ0 e)));exact⟨⟨k+1,_,om,pC,l,Y,X,V⟩,oI⟩
  .obtain rfl:n=k:=om;have f:xs=bX p:=qH (by rw[F,tQ,D.out.len]) fun x d=>by obtain⟨i,hi,e⟩:=D.surj (x:=x) (by rw[<-F];exact d);have P:=M.out i hi;have Q:=kE D.out hi;rw[e,aZ8] at P Q;rw[P,Q]
   have W:Hid (OI w wr (.slice g n n) (bX p)):=aG (by have:=E.oi (B:=w.heap.size) om (by rw[F];omega);rw[F,f] at this;exact this);go_wp2;go_ret;exact⟨_,rfl,W.out,C.out⟩
def Sep(B:Nat)(w:Wo)(Φ:Wo->Prop):Prop:=∀w2:Wo,(∀p:Addr,B<=p.block->p.block<w.heap.size->w2.cell? p=w.cell? p)->Φ w2
section
variable {B B':Nat} {w w':Wo} {Φ Ψ:Wo->Prop}
theorem Sep.out(h:Sep B w Φ):Φ w:=h w fun _ _ _=>rfl
theorem Sep.mono(h:Sep B w Φ)(hB:B'<=B):Sep B' w Φ:=fun w2 A=>h w2 fun p D C=>A p om C
theorem Sep.of(h:Sep B w Φ)(F:w.heap.size<=w'.heap.size)(E:∀p:Addr,B<=p.block->p.block<w.heap.size->w'.cell? p=w.cell? p):Sep B w' Φ:=fun w2 D=>h w2 fun p A C=>(D p A (aY1 C F)).trans (E p A C)
theorem Sep.on(h:Sep B w Φ)(A:Below w w w'):Sep B w' Φ:=h.of A.size fun p _ C=>A.cell C
theorem Sep.grown{row:Option Nat}(h:Sep B w Φ)(A:w.grownBy w' row)(D:∀g,row=some g->g<B):Sep B w' Φ:=h.of A.size fun p E C=>World.cell?_of_block (A.block _ C fun e=>oA (D _ e.symm))
theorem Sep.imp(h:Sep B w Φ)(k:∀w2,Φ w2->Ψ w2):Sep B w Ψ:=fun w2 A=>k w2 (h w2 A)
theorem Sep.and(h:Sep B w Φ)(k:Sep B w Ψ):Sep B w fun w2=>Φ w2/\Ψ w2:=fun w2 A=>⟨h w2 A,k w2 A⟩
end
theorem SI.wfs{w:Wo}{v:Va}{xs:LI}(h:SI w v xs)(k:Nat):I64 (xs k 0):=by obtain⟨_,_,_,h⟩:=h;exact h.wf k
theorem SI.len'{w:Wo}{v:Va}{xs:LI}(h:SI w v xs):xs.length<=17592186044416:=by obtain⟨_,_,_,h⟩:=h;exact h.len
theorem SS.len'{w:Wo}{v:Va}{xs:LL}(h:SS w v xs):xs.length<=17592186044416:=by obtain⟨_,_,_,h⟩:=h;exact h.len
theorem SI.moved{w w':Wo}{v:Va}{xs:LI}(h:SI w v xs)(D:∀p:Addr,v.ownBlock=some p.block->p.block<w.heap.size->w'.cell? p=w.cell? p):SI w' v xs:=by obtain⟨A,c,rfl,h⟩:=h;refine⟨A,c,rfl,h.len,h.cap,fun k hk=>?_,h.wf⟩;obtain⟨B,e,C⟩:=h.cell k hk;refine⟨B,e,?_⟩;subst e;rw[D (B.add k) (by rw[dQ];rfl) (World.block_lt_of_cell? _ _ C)];exact C
theorem SI.sep{B:Nat}{w:Wo}{v:Va}{xs:LI}(h:SI w v xs)(hn:0<xs.length->∀g,v.ownBlock=some g->B<=g):Sep B w fun w2=>SI w2 v xs:=fun w2 D=>by
 by_cases C:0<xs.length
 .exact h.moved fun p F E=>D p (hn C _ F) E
 .obtain⟨A,c,rfl,h⟩:=h;exact⟨A,c,rfl,h.len,h.cap,fun k hk=>aB hk om,h.wf⟩
theorem OI.sep{B:Nat}{w:Wo}{v:Va}{xs:LI}(h:OI B w v xs)(C:xs.length<=17592186044416)(D:∀k,I64 (xs k 0)):Sep B w fun w2=>SI w2 v xs:=
 (h.si C D).sep fun _ g A=>(h.lt A).1
theorem SI.nilSep(B:Nat)(w:Wo):Sep B w fun w2=>SI w2 (():aV) []:=fun w2 _=>SI.none_ w2
theorem SS.nilSep(B:Nat)(w:Wo):Sep B w fun w2=>SS w2 (():aV) []:=fun w2 _=>SS.none_ w2
theorem OS.sep{B:Nat}{X:Nat->Prop}{w:Wo}{v:Va}{l:LL}(h:OS B X w v l)(G:∀g,g<B->X g)(L:l.length<=17592186044416):Sep B w fun w2=>SS w2 v l:=fun w2 D=>by
 obtain⟨us,E,hi⟩:=h;have H:=E.2;rcases H with⟨rfl,A⟩|⟨g,F,P,rfl,hB,I,hn,_,_,_⟩
 .obtain rfl:l=[]:=eH A;exact SS.none_ w2
 .have K:=(Array.getElem?_eq_some_iff.1 I).1;refine⟨some (g:aA),F,rfl,L,hn,fun k hk=>?_⟩;obtain⟨u,N,M,O⟩:=hi k hk;refine⟨_,u,rfl,?_,(M.sep (B:=B) fun A C J=>?_) w2 D⟩
  .rw[D _ (by rw[dQ];exact hB) (by rw[dQ];exact K)];exact World.ownsRow.cells E (g:=g) rfl k u N
  .refine eJ fun Q=>(O A C J).2 (G C om)
theorem al(w:Wo)(v:Va)(xs:LI)(g:Nat)(P:Int->Bool)(H:SI w v xs)(K:∀k,k<xs.length->Calls prog 106 #[.int .i64 (xs k 0),.pointer g] w (fun e w'=>e=.returned (.bool (P (xs k 0)))/\w=w')):Calls prog 145 #[v,.func (.func 106) #[] #[.pointer g]] w (fun e w'=>∃z:Int,e=.returned (z:aV)/\(decide (0<=z)=xs.any P)/\w=w'):=by
 have J:=zh H;have M:=zh K;have O:=H.len';obtain⟨A,c,rfl,_⟩:=H;clear K;obtain⟨n,hn⟩:=xE xs.length;have C:=zh hn;rw[<-hn] at J O|-;clear hn;go_enter func145,ntmps145;go_wp2;go_loopw [8] (fun i wr=>∃k:Nat,k<=n/\i=(k:aV)/\Hid (∀j,j<k->P (xs j 0)=false)/\w=wr) (fun i _=>n-(intOf i).toNat)
 .exact⟨0,aZ5 _,rfl,aG (fun j h=>aB h (aY5 _)),rfl⟩
 .
  obtain⟨k,hk,rfl,I,rfl⟩:=hrel;by_cases G:k<n
  .obtain⟨B,D⟩:∃B,A=some B/\w.cell? (B.add k)=some (.int .i64 (xs k 0)):=by
    obtain⟨B,x,e,D,_,N⟩:=J.elt (k:=k) (C.out▸G);exact⟨B,e,N.out▸D⟩
   obtain⟨rfl,D⟩:=D;go_wp2_with fail;apply(M k (C.out▸G)).mono;rintro e w1⟨rfl,rfl⟩;cases hp:P (xs k 0)
   .have L : Hid (∀ j, j < k + 1 -> P (xs j 0) = false) := aG fun j F => by
     by_cases e:j=k
     .subst e;exact hp
     .exact I.out j om
    go_wp2;exact⟨⟨k+1,om,pC,L,trivial⟩,oI⟩
   .have E:Hid (xs.any P=true):=aG (by
     rw[List.any_eq_true];exact⟨xs k 0,by rw[aZ4,aZ3 (C.out▸G)];exact aY6 _,hp⟩)
    go_wp2;go_ret;exact⟨_,rfl,by rw[E.out];exact dE om,rfl⟩
  .obtain rfl:n=k:=om;have E:Hid (xs.any P=false):=aG (by rw[List.any_eq_false];intro x Q e;obtain⟨j,F,rfl⟩:=eI.1 Q;have:=I.out j (C.out▸F);rw[aZ4,aZ3 F] at this;exact Bool.noConfusion (e.symm.trans this));go_wp2;go_ret;exact⟨_,rfl,by rw[E.out];rfl,rfl⟩
theorem Z4(w:Wo)(v:Va)(xs:LI)(g:Nat)(P:Int->Bool)(C:SI w v xs)(B:∀k,k<xs.length->Calls prog 106 #[.int .i64 (xs k 0),.pointer g] w (fun e w'=>e=.returned (.bool (P (xs k 0)))/\w=w')):Calls prog 88 #[v,.func (.func 106) #[] #[.pointer g]] w (fun e w'=>e=.returned (.bool (xs.any P))/\w=w'):=by have E:=zh (al w v xs g P C B);obtain⟨A,c,rfl,_⟩:=C;clear B;go_enter func88,ntmps88;go_wp2_with fail;apply E.mono;rintro e w1⟨z,rfl,D,rfl⟩;have F:=zh D;clear D;go_wp2;go_ret;exact⟨by rw[<-F.out];rfl,rfl⟩
theorem IJ(w:Wo)(n:Nat)(A:1<=n)(B:n<=64):Calls prog 104 #[n] w (fun e w'=>e=.returned (z0:aV)/\w=w'):=by
 have C:¬(n:Int)<1:=om;have t2:¬(64:Int)<(n:Int):=om;go_enter func104,ntmps104;go_wp2;go_ret;exact⟨rfl,rfl⟩
theorem S6(w:Wo)(A:OA)(n c g:Nat)(y:Int)(D:w.cell? g=some (.slice A n c))(B:0<=y)(C:y<n):Calls prog 106 #[y,.pointer g] w (fun e w'=>e=.returned (.bool false)/\w=w'):=by
 have E:¬y<0:=om;have t2:¬(n:Int)<=y:=om;go_enter func106,ntmps106;go_wp2;go_ret;exact⟨rfl,rfl⟩
section
variable {P:Program} {ops:Array Oper} {Q:Exit->Act->Wo->Prop} {S:Wo->Prop}
theorem bY.two{i j n:Nat}{oi oj:Oper}{L:Array Bool}{a:Act}{w:Wo}(D:Region.ready .any ops L=[i,j])(hi:ops[i]?=some oi)(H:ops[j]?=some oj)
 (F:∀K:Act->Wo->Prop,Hid (∀b v,S v->(S v->bY P ops Q S n (L.setIfInBounds i true) b v)->K b v)->if Region.wanted oi (yielded ops a.tmps)=true then Oper.wp P oi a w K Q else K (a.put oi.dst undef) w)
 (G:∀K:Act->Wo->Prop,Hid (∀b v,S v->(S v->bY P ops Q S n (L.setIfInBounds j true) b v)->K b v)->if Region.wanted oj (yielded ops a.tmps)=true then Oper.wp P oj a w K Q else K (a.put oj.dst undef) w):
 bY P ops Q S (n+1) L a w:=by
 refine⟨fun E=>aB (D.symm.trans E) sM,fun k hk=>?_⟩;rw[D] at hk;rcases List.mem_cons.1 hk with rfl|hk
 .exact wpOp_step hi (fun B hK=>F B (fun b v A C=>hK b v ⟨A,C A⟩))
 .obtain rfl:k=j:=by simpa using hk
  exact wpOp_step H (fun B hK=>G B (fun b v A C=>hK b v ⟨A,C A⟩))
end
theorem KI(w:Wo):∃w' g,w.alloc (.cells #[] 3)=w'/\w.heap.size=g/\OI g w' (.slice (some ⟨g,0,none⟩) 0 0) []/\Below w w w':=
 ⟨_,_,rfl,rfl,OI.empty w zr,aH _ _⟩
theorem zO(w:Wo)(n:Nat):∃w' g,w.alloc (.cells (madeCells #[z0] n) 3)=w'/\w.heap.size=g/\RI w' g (List.replicate n 0)/\Below w w w':=
 ⟨_,_,rfl,rfl,RI.made w n,aH _ _⟩
theorem aR(w:Wo)(t:TypeId)(cs:List Va):∃w' g,w.alloc (.cells cs.toArray t)=w'/\w.heap.size=g/\Blk w' g t cs/\Below w w w':=
 ⟨_,_,rfl,rfl,Blk.new w t cs,aH _ _⟩
theorem uP(w:Wo)(t:TypeId)(cs:List Va):∃w' g,(w.alloc (.cells cs.toArray t)).drew=w'/\w.heap.size=g/\Blk w' g t cs/\Below w w w':=
 ⟨_,_,rfl,rfl,Blk.new w t cs,aC (aH _ _) (aI _)⟩
theorem XD(w:Wo)(n:Nat):∃w' g,w.alloc (.cells (madeCells #[.bool false] n) 4)=w'/\w.heap.size=g/\RB w' g (List.replicate n false)/\Below w w w':=
 ⟨_,_,rfl,rfl,RB.made w n,aH w _⟩
theorem F1(w:Wo)(n:Nat)(u:Va)(p:LI)(c:SI w u p)(P:IsP n p)(v:1<=n)(x:n<=64):Calls prog 53 #[u] w (fun e w'=>e=.returned (z0:aV)/\Below w w w'):=by
 have κ:=fun(w:Wo)=>PN n om w;have G:=zh c;have B:=zh P;obtain⟨I,R,rfl,_⟩:=c;rw[P.len] at G|-;have f:Hid ((p.any fun _=>false)=false):=aG sM;clear P;go_enter func53,ntmps53;go_upto_region 1 with fail;obtain⟨w1,g,U,K,X,Y⟩:=aR w 22 [.slice I n R];rw[U,K];have J:w1.cell? g=some (.slice I n R):=X.cell 0;have F:=zh Y;have o:=zh J;clear U X Y;go_wp2_with fail;apply(IJ w1 n v x).mono;rintro e w2⟨rfl,rfl⟩;go_wp2_with fail;refine(Z4 w1 _ p g (fun _=>false) (G.below F zr) (fun k hk=>S6 w1 I n R g _ o (B.rng k (by rw[<-B.out.len];exact hk)).1 (B.rng k (by rw[<-B.out.len];exact hk)).2)).mono ?_;rintro e w2⟨rfl,rfl⟩;rw[f.out];go_upto_region 7 with fail;obtain⟨w2,L,V,t,W,M⟩:=XD w1 n;rw[V,t];have C:=zh W;have S:=zh (aC F M);have l:=zh (bE w2);have s:=aE M J;have ι:w<=L:=by have:=F.size;omega
 clear V W M J;go_wp2_with fail;clear s;go_loopw [21] (fun Q wr=>∃(k:Nat) (bs:List Bool),k<=n/\Q=(k:aV)/\bs=n/\Hid (RB wr L bs)/\Hid (∀j,j<n->bs j false=true->∃i,i<k/\p i 0=(j:Int))/\Hid (Below w w wr)) (fun Q _=>n-(intOf Q).toNat)
 .exact⟨0,_,aZ5 _,rfl,eG,C,aG (fun j N h=>by simp[List.getD,N] at h),S⟩
 .
  clear C S l;obtain⟨k,bs,hk,rfl,Z,C,T,D⟩:=hrel;by_cases O:k<n
  .obtain⟨η,y,rfl,θ,_,H⟩:=(G.below D zr).elt (k:=k) (by rw[B.out.len];exact O);have E:=B.nat O;rw[H.out] at E;obtain⟨A,ζ⟩:∃A:Nat,y=(A:Int):=⟨y.toNat,E.2⟩
   subst ζ;have d:A<n:=by have:=E.1;rwa[aZ8] at this
   have a:bs A false=false:=by rw[Bool.eq_false_iff];intro h;obtain⟨i,hi,e⟩:=T.out A d h;have:=B.inj i k om O (by rw[e,H.out]);omega
   have ε:=C.cell A (by rw[Z];exact d);rw[a] at ε;have μ:=C.frozen A;clear E a;go_wp2_with fail;have q:=zh (C.set A true);have z:(bs.set A true).length=n:=by rw[aZ9];exact Z
   have r:Hid (∀j,j<n->(bs.set A true).getD j false=true->∃i,i<k+1/\p i 0=(j:Int)):=aG fun j N h=>by
    by_cases e:A=j
    .subst e;exact⟨k,om,H.out⟩
    .have δ:(bs.set A true).getD j false=bs j false:=by simp[List.getD,List.getElem?_set_ne e]
     rw[δ] at h;obtain⟨i,hi,K⟩:=T.out j N h;exact⟨i,om,K⟩
   have m:=zh (D.grown (aU wr L A (.bool true)) D.size (fun b e=>oA (aZ0 e)));exact⟨⟨k+1,_,om,pC,z,q,r,m⟩,oI⟩
  .go_wp2;go_ret;exact⟨rfl,D.out⟩
theorem ak(w:Wo)(v:Va)(xs:LL)(g:Nat)(P:(LI)->Bool)(F:SS w v xs)(I:∀k,k<xs.length->∀u,SI w u (xs k [])->Calls prog 151 #[u,.pointer g] w (fun e w'=>e=.returned (.bool (P (xs k [])))/\w=w')):Calls prog 271 #[v,.func (.func 151) #[] #[.pointer g]] w (fun e w'=>∃z:Int,e=.returned (z:aV)/\(decide (0<=z)=xs.any P)/\w=w'):=by
 have H:=zh F;have L:=zh I;have R:=F.len';obtain⟨A,c,rfl,_⟩:=F;clear I;obtain⟨n,hn⟩:=xE xs.length;have B:=zh hn;rw[<-hn] at H R|-;clear hn;go_enter func271,ntmps271;go_wp2;go_loopw [8] (fun i wr=>∃k:Nat,k<=n/\i=(k:aV)/\Hid (∀j,j<k->P (xs j [])=false)/\w=wr) (fun i _=>n-(intOf i).toNat)
 .exact⟨0,aZ5 _,rfl,aG (fun j h=>aB h (aY5 _)),rfl⟩
 .
  obtain⟨k,hk,rfl,G,rfl⟩:=hrel;by_cases E:k<n
  .obtain⟨T,J,Q,row,rfl,U,O,M⟩:=H.eltA (k:=k) (B.out▸E);have N:Hid (SI w (.slice J row Q) (xs k [])):=aG (M.out▸O.si);go_wp2_with fail;apply(L k (B.out▸E) _ N).mono;rintro e w1⟨rfl,rfl⟩;cases hp:P (xs k [])
   .have K : Hid (∀ j, j < k + 1 -> P (xs j []) = false) := aG fun j D => by
     by_cases e:j=k
     .subst e;exact hp
     .exact G.out j om
    go_wp2;exact⟨⟨k+1,om,pC,K,trivial⟩,oI⟩
   .have C:Hid (xs.any P=true):=aG (by
     rw[List.any_eq_true];exact⟨xs k [],by rw[aZ4,aZ3 (B.out▸E)];exact aY6 _,hp⟩)
    go_wp2;go_ret;exact⟨_,rfl,by rw[C.out];exact dE om,rfl⟩
  .obtain rfl:n=k:=om;have C:Hid (xs.any P=false):=aG (by rw[List.any_eq_false];intro x S e;obtain⟨j,D,rfl⟩:=eI.1 S;have:=G.out j (B.out▸D);rw[aZ4,aZ3 D] at this;exact Bool.noConfusion (e.symm.trans this));go_wp2;go_ret;exact⟨_,rfl,by rw[C.out];rfl,rfl⟩
theorem Z3(w:Wo)(v:Va)(xs:LL)(g:Nat)(P:(LI)->Bool)(C:SS w v xs)(B:∀k,k<xs.length->∀u,SI w u (xs k [])->Calls prog 151 #[u,.pointer g] w (fun e w'=>e=.returned (.bool (P (xs k [])))/\w=w')):Calls prog 150 #[v,.func (.func 151) #[] #[.pointer g]] w (fun e w'=>e=.returned (.bool (xs.any P))/\w=w'):=by have E:=zh (ak w v xs g P C B);obtain⟨A,c,rfl,_⟩:=C;clear B;go_enter func150,ntmps150;go_wp2_with fail;apply E.mono;rintro e w1⟨z,rfl,D,rfl⟩;have F:=zh D;clear D;go_wp2;go_ret;exact⟨by rw[<-F.out];rfl,rfl⟩
theorem S9(w:Wo)(A:OA)(n c g:Nat)(B:w.cell? g=some (n:aV)):Calls prog 151 #[.slice A n c,.pointer g] w (fun e w'=>e=.returned (.bool false)/\w=w'):=by
 have C:((n:Int) !=(n:Int))=false:=by simp
 go_enter func151,ntmps151;go_wp2;go_ret;exact⟨rfl,rfl⟩
theorem XZ(w:Wo)(n:Nat)(v:Va)(xs:LL)(J:SS w v xs)(V:∀k,k<xs.length->IsP n (xs k []))(P:1<=n)(Q:n<=64):Calls prog 96 #[n,v] w (fun e w'=>e=.returned (z0:aV)/\Below w w w'):=by
 have E:=zh J;have F:=zh V;have l:=J.len';obtain⟨h,o,rfl,_⟩:=J;have W:Hid ((xs.any fun _=>false)=false):=aG sM;clear V;obtain⟨r,I⟩:=xE xs.length;rw[<-I] at E F l|-;have M:=zh I;clear I;go_enter func96,ntmps96;go_upto_region 1 with fail;obtain⟨w1,g,O,i,G,R⟩:=aR w 3 [(n:aV)];rw[O,i];have Z:=zh G;have X:=zh R;have B:w1.cell? g=some (n:aV):=G.cell 0;have L:=zh (bE w1);clear O G R;go_wp2_with fail;apply(IJ w1 n P Q).mono;rintro e w2⟨rfl,rfl⟩;clear B;go_wp2;go_loopw [16] (fun K wr=>∃k:Nat,k<=r/\K=(k:aV)/\Hid (Below w1 w1 wr)) (fun K _=>r-(intOf K).toNat)
 .exact⟨0,aZ5 _,rfl,L⟩
 .
  clear L;obtain⟨k,hk,rfl,C⟩:=hrel;have D:=zh (aC X C);have B:wr.cell? g=some (n:aV):=(Z.belowS C).cell 0;have a:=zh B;by_cases U:k<r
  .obtain⟨s,q,t,row,rfl,j,f,d⟩:=(E.below D zr).eltA (k:=k) (M.out▸U);have H:IsP n row:=by rw[<-d.out];exact F.out k U
   have b:=zh H;have N:=zh f.si;rw[H.len] at N j;clear H B;go_wp2_with fail;apply(F1 wr n _ row N b.out P Q).mono;rintro e p⟨rfl,S⟩;have Y:=zh (aC C S);clear S;go_wp2;exact⟨⟨k+1,om,pC,Y⟩,oI⟩
  .go_wp2_with fail;have T:=Z3 wr (.slice h r o) xs g (fun _=>false) (E.below D zr) (fun k hk u m=>by
    obtain⟨A,c,rfl,_⟩:=m;rw[(F.out k (M.out▸hk)).len];exact S9 wr A n c g a.out)
   rw[W.out] at T;apply T.mono;rintro e p⟨rfl,rfl⟩;go_wp2;go_ret;exact⟨rfl,D.out⟩
theorem JX{s:Nat}:∀{l:List (List Va)},(∀k,k<l.length->(l k []).length=s)->l.flatten.length=l.length*s
 |[],_=>by simp
 |x::l,h=>by
  have A:x=s:=by simpa using h 0 sM
  have B:=JX (l:=l) fun k hk=>by simpa using h (k+1) (by simpa using hk)
  rw[List.flatten_cons,aZ1,B,A,List.length_cons,Nat.add_mul,Nat.one_mul,Nat.add_comm]
theorem G3{s:Nat}:∀{l:List (List Va)},(∀k,k<l.length->(l k []).length=s)->∀{k j:Nat},k<l.length->j<s->l.flatten[k*s+j]?=(l k [])[j]?
 |[],_,k,j,hk,_=>aB hk sM
 |x::l,h,0,j,hk,hj=>by
  have A:x=s:=by simpa using h 0 sM
  rw[List.flatten_cons,Nat.zero_mul,Nat.zero_add,aY2 om];rfl
 |x::l,h,k+1,j,hk,hj=>by
  have A:x=s:=by simpa using h 0 sM
  have B:=G3 (l:=l) (fun k hk=>by simpa using h (k+1) (by simpa using hk)) (k:=k) (by simpa using hk) hj;rw[List.flatten_cons,eL (by rw[A,Nat.add_mul,Nat.one_mul];omega),A,show(k+1)*s+j-s=k*s+j by rw[Nat.add_mul,Nat.one_mul];omega,B];simp
def RO(B:Nat)(t:TypeId)(s:Nat)(w:Wo)(v:Va)(l:List (List Va)):Prop:=w.ownsRow B t s v l l.flatten/\∀k,k<l.length->(l k []).length=s
def RG(s:Nat)(w:Wo)(v:Va)(l:List (List Va)):Prop:=
 ∃A c,v=.slice A l c/\∀k,k<l.length->∃B,A=some B/\∀j u,(l k [])[j]?=some u->w.cell? (B.add (k*s+j))=some u
section
variable {B s:Nat} {t:TypeId} {w w':Wo} {v:Va} {l:List (List Va)}
theorem RO.nil(B:Nat)(t:TypeId)(s:Nat)(w:Wo):RO B t s w (():aV) []:=⟨World.ownsRow_nil w B t s,fun k hk=>aB hk sM⟩
theorem RO.lt(h:RO B t s w v l){g:Nat}(A:v.ownBlock=some g):B<=g/\g<w.heap.size:=World.ownsRow.lt h.1 g A
theorem RO.form'(h:RO B t s w v l):∃A c,v=.slice A l c:=by
 rcases h.1.2 with⟨rfl,C⟩|⟨g,D,E,rfl,_⟩
 .exact⟨none,0,by rw[C]⟩
 .exact⟨_,_,rfl⟩
theorem RO.keep(h:RO B t s w v l)(hk:∀g,v.ownBlock=some g->w'.heap[g]?=w.heap[g]?):RO B t s w' v l:=by
 refine⟨⟨h.1.1,?_⟩,h.2⟩;rcases h.1.2 with hn|⟨g,A,C,rfl,D,E,rest⟩
 .exact .inl hn
 .exact .inr ⟨g,A,C,rfl,D,(hk g rfl).trans E,rest⟩
theorem RO.grown{row:Option Nat}(h:RO B t s w v l)(C:w.grownBy w' row)(D:∀g,v.ownBlock=some g->row≠some g):RO B t s w' v l:=
 h.keep fun g A=>C.block g (h.lt A).2 (fun e=>D g A e.symm)
theorem RO.below{B':Nat}(h:RO B t s w v l)(A:Below B' w w')(hB:w<=B'):RO B t s w' v l:=
 h.keep fun g C=>A.block g (oA (h.lt C))
theorem RO.alloc(h:RO B t s w v l)(o:Obj):RO B t s (w.alloc o) v l:=⟨World.ownsRow.alloc h.1 o,h.2⟩
theorem RO.bgrown{w0:Wo}(h:RO B t s w v l)(A:Below B w0 w)(hB:B<=w)(C:w.grownBy w' v.ownBlock):Below B w0 w':=
 A.grown C hB fun k hk=>(h.lt hk).1
theorem RO.rg(h:RO B t s w v l):RG s w v l:=by
 rcases h.1.2 with⟨rfl,D⟩|⟨g,C,F,rfl,G,H,hn,_,_,_⟩
 .obtain rfl:l=[]:=eH D;exact⟨none,0,rfl,fun k hk=>aB hk sM⟩
 .refine⟨some (g:aA),C,rfl,fun k hk=>⟨_,rfl,fun j u A=>?_⟩⟩;have E:j<s:=by
   have:=(List.getElem?_eq_some_iff.1 A).1;rw[h.2 k hk] at this;exact this
  exact World.ownsRow.cells h.1 (g:=g) rfl (k*s+j) _ ((G3 h.2 hk E).trans A)
theorem RG.keep(h:RG s w v l)(hk:∀p:Addr,p.block<w.heap.size->w'.cell? p=w.cell? p):RG s w' v l:=by obtain⟨A,c,rfl,h⟩:=h;refine⟨A,c,rfl,fun k E=>?_⟩;obtain⟨D,e,B⟩:=h k E;exact⟨D,e,fun j u C=>(hk _ (World.block_lt_of_cell? _ _ (B j u C))).trans (B j u C)⟩
theorem RG.below{B':Nat}(h:RG s w v l)(A:Below B' w w')(hB:w<=B'):RG s w' v l:=h.keep fun _ B=>A.cell (aY1 B hB)
theorem RG.elt{A:OA}{n c:Nat}(h:RG s w (.slice A n c) l){k:Nat}(hk:k<l):∃B,A=some B/\
 (∀u,(l k [])[0]?=some u->w.cell? (B.add (k*s))=some u)/\
 (∀j u,(l k [])[j+1]?=some u->w.cell? ⟨(B.add (k*s)).block,(B.add (k*s)).off+(j+1),none⟩=some u):=by
 obtain⟨F,c',e,h⟩:=h;injection e with e1 D e3;subst e1;obtain⟨B,e,E⟩:=h k hk;refine⟨B,e,fun u C=>E 0 u C,fun j u C=>?_⟩;have D:B.add (k*s+(j+1))=⟨(B.add (k*s)).block,(B.add (k*s)).off+(j+1),none⟩:=by rw[<-L1];simp[Addr.add]
 rw[<-D];exact E _ u C
theorem RG.len{A:OA}{n c:Nat}(h:RG s w (.slice A n c) l):n=l:=by obtain⟨B,c',e,h⟩:=h;injection e
end
section
variable {ops:Array Oper} {rest:List Oper} {o:Oper} {a:Act} {w:Wo} {K:Act->Wo->Prop} {Q:Exit->Act->Wo->Prop} {E:Prop}
theorem LS (t T : TypeId) (s A : Nat) (z : Va) (Y : prog.underlying T = some (.slice t)) (R : (prog.info? t).map (fun i => (i.zero, i.size, i.bytes)) = some (some z, s, A)) (n : z.cells.size = s) (X : 0 < s) (M : A <= 1000)
 (D x:Operand)(V:o.op=.call {callee:=.builtin .append,args:=#[D,x],argTypes:=#[T,T]})
 (B:Nat)(v:Va)(l:List (List Va))(O:a.eval D=v)(C:RO B t s w v l)(g c:Nat)(y:List Va)(Z:a.eval x=.slice g 1 c)(b:y=s)(N:∀j u,y[j]?=some u->w.cell? ⟨g,j,none⟩=some u)(G:∀u∈y,u.oneCell'=true)
 (U:l.length+1<=100000000)(hB:B<=w)
 (h:∀v' w',RO B t s w' v' (l++[y])->w.grownBy w' v.ownBlock->(v'.ownBlock=v.ownBlock\/v'.ownBlock=some w.heap.size)->K (a.put o.dst v') w'):o.wp prog a w K Q:=by
 obtain ⟨p, hi, d, f, m⟩ := info_parts R;have L : (l.length + 1) * A <= 140737488355328 := aZ6 (Nat.mul_le_mul U M) dC;obtain ⟨v', w', W, H, I, _, J⟩ := run_append_own_at (P := prog) w B T o.type t p z s A Y hi d f m n X v l _ C.1 ⟨g, 0, none⟩ 1 c y om (by
  intro j u S;have E:((g:aA):Addr).add j=⟨g,j,none⟩:=by unfold Addr.add;by_cases F:j=0<;>simp[F]
  rw[E];exact N j u S) G (by unfold maxLen;omega) L hB
 unfold Oper.wp execOp;simp only[V,resolve,invoke,builtin,Sem.run_bind,Sem.run_pure,Result.andThen_ok,List.map_toArray,List.map_cons,List.map_nil,O,Z,W];refine h v' w' ⟨by simpa using H,fun k hk=>?_⟩ I J;rw[aZ1,aZ2] at hk;by_cases e:k<l
 .rw[show(l++[y]).getD k []=l k [] by simp[List.getD,aY2 e]];exact C.2 k e
 .rw[show k=l from om,show(l++[y]).getD l []=y by simp[List.getD]];exact b
theorem fJ (J : o.guard = none) (t T : TypeId) (s A : Nat) (z : Va) (R : prog.underlying T = some (.slice t)) (L : (prog.info? t).map (fun i => (i.zero, i.size, i.bytes)) = some (some z, s, A)) (V : z.cells.size = s) (P : 0 < s) (G : A <= 1000)
 (D x:Operand)(N:o.op=.call {callee:=.builtin .append,args:=#[D,x],argTypes:=#[T,T]})
 (B:Nat)(v:Va)(l:List (List Va))(I:a.eval D=v)(O:RO B t s w v l)(g c:Nat)(y:List Va)(S:a.eval x=.slice g 1 c)(U:y=s)(H:∀j u,y[j]?=some u->w.cell? ⟨g,j,none⟩=some u)(C:∀u∈y,u.oneCell'=true)
 (M:l.length+1<=100000000)(hB:B<=w)
 (h:∀v' w',RO B t s w' v' (l++[y])->w.grownBy w' v.ownBlock->(v'.ownBlock=v.ownBlock\/v'.ownBlock=some w.heap.size)->wpList prog ops Q rest (a.put o.dst v') w'):wpList prog ops Q (o::rest) a w:=
 wpList_plain J fun K hK=>LS t T s A z R L V P G D x N B v l I O g c y S U H C M hB fun v' w' C E F=>hK _ _ (h v' w' C E F)
theorem kQ (I : o.guard = none) (t T : TypeId) (s A : Nat) (z : Va) (P : prog.underlying T = some (.slice t)) (J : (prog.info? t).map (fun i => (i.zero, i.size, i.bytes)) = some (some z, s, A)) (U : z.cells.size = s) (O : 0 < s) (F : A <= 1000)
 (C x:Operand)(M:o.op=.call {callee:=.builtin .append,args:=#[C,x],argTypes:=#[T,T]})
 (B:Nat)(v:Va)(l:List (List Va))(H:a.eval C=v)(N:RO B t s w v l)(g c:Nat)(y:List Va)(R:a.eval x=.slice g 1 c)(S:y=s)(G:∀j u,y[j]?=some u->w.cell? ⟨g,j,none⟩=some u)(D:∀u∈y,u.oneCell'=true)
 (L:l.length+1<=100000000)(hB:B<=w)
 (h:∀v' w',RO B t s w' v' (l++[y])->w.grownBy w' v.ownBlock->(v'.ownBlock=v.ownBlock\/v'.ownBlock=some w.heap.size)->K (a.put o.dst v') w'):
 if Region.wanted o (yielded ops a.tmps)=true then Oper.wp prog o a w K Q else E:=by
 rw[iP (by simp[Region.wanted,I])];exact LS t T s A z P J U O F C x M B v l H N g c y R S G D L hB h
end
theorem jG(w:Wo)(t:TypeId)(cs:List Va):∀j u,cs[j]?=some u->(w.alloc (.cells cs.toArray t)).cell? ⟨w.heap.size,j,none⟩=some u:=fun j u A=>by rw[(Blk.new w t cs).cell j];exact A
structure KX(B:Nat)(X:Nat->Prop)(w w':Wo):Prop where
 bel:Below B w w'
 box:∀b,X b->b<w.heap.size->w'.heap[b]?=w.heap[b]?
theorem KX.refl(B:Nat)(X:Nat->Prop)(w:Wo):KX B X w w:=⟨Below.refl _ _,fun _ _ _=>rfl⟩
theorem KX.size{B:Nat}{X:Nat->Prop}{w w':Wo}(h:KX B X w w'):w.heap.size<=w'.heap.size:=h.bel.size
theorem KX.of{B:Nat}{X:Nat->Prop}{w w':Wo}(h:Below w w w')(hB:B<=w):KX B X w w':=⟨h.mono hB,fun b _ A=>h.block b A⟩
theorem KX.trans{B:Nat}{X:Nat->Prop}{w w1 w2:Wo}(h:KX B X w w1)(k:KX B X w1 w2):KX B X w w2:=
 ⟨h.bel.trans k.bel,fun b C A=>(k.box b C (aY1 A h.size)).trans (h.box b C A)⟩
theorem KX.gr{B:Nat}{X:Nat->Prop}{w w':Wo}{row:Option Nat}(h:w.grownBy w' row)(hB:B<=w)(A:∀g,row=some g->B<=g/\¬X g):KX B X w w':=
 ⟨(Below.refl B w).grown h hB fun g D=>(A g D).1,fun b E C=>h.block b C fun e=>(A b e.symm).2 E⟩
theorem KX.blk{B:Nat}{X:Nat->Prop}{w w':Wo}(h:KX B X w w'){b:Nat}{t:TypeId}{cs:List Va}(A:Blk w b t cs)(C:X b):Blk w' b t cs:=A.keep (h.box b C A.lt)
theorem KX.oi{B B':Nat}{X:Nat->Prop}{w w':Wo}(h:KX B X w w'){u:Va}{xs:LI}(C:OI B' w u xs)(D:∀g,u.ownBlock=some g->X g):OI B' w' u xs:=
 C.keep fun g A=>h.box g (D g A) (C.lt A).2
theorem KX.less{B:Nat}{X Y:Nat->Prop}{w w':Wo}(h:KX B X w w')(C:∀g,Y g->X g):KX B Y w w':=⟨h.bel,fun b A=>h.box b (C b A)⟩
def pP(B:Nat)(X:Nat->Prop)(w:Wo)(v:Va)(us:Nat->Va)(xss:LL):Prop:=
 w.ownsRow B 22 1 v xss ((List.range xss).map us)/\
 (∀i,i<xss.length->OI B w (us i) (xss i [])/\∀g,(us i).ownBlock=some g->v.ownBlock≠some g/\¬X g)/\
 (∀i j,i<xss.length->j<xss.length->i≠j->∀g,(us i).ownBlock=some g->(us j).ownBlock≠some g)/\∀g,v.ownBlock=some g->¬X g
def OM(B:Nat)(X:Nat->Prop)(w:Wo)(v:Va)(xss:LL):Prop:=∃us,pP B X w v us xss
section
variable {B:Nat} {X:Nat->Prop} {w w':Wo} {v:Va} {xss:LL}
theorem OM.lt(h:OM B X w v xss){g:Nat}(A:v.ownBlock=some g):B<=g/\g<w.heap.size:=by obtain⟨us,h,_⟩:=h;exact World.ownsRow.lt h g A
theorem OM.notX(h:OM B X w v xss){g:Nat}(A:v.ownBlock=some g):¬X g:=by obtain⟨us,_,_,_,h⟩:=h;exact h g A
theorem pP.grown{us:Nat->Va}(h:pP B X w v us xss){row:Option Nat}(E:w.grownBy w' row)(F:∀g,row=some g->X g):pP B X w' v us xss:=by
 obtain⟨H,C,hi,D⟩:=h;refine⟨World.ownsRow.kept H E ?_,fun i A=>⟨(C i A).1.grown E fun g G e=>((C i A).2 g G).2 (F g e),(C i A).2⟩,hi,D⟩;cases row with
 |none=>cases D:v.ownBlock<;>simp
 |some g=>exact .inr fun e=>D g e (F g rfl)
theorem OM.grown(h:OM B X w v xss){row:Option Nat}(A:w.grownBy w' row)(C:∀g,row=some g->X g):OM B X w' v xss:=by obtain⟨us,h⟩:=h;exact⟨us,h.grown A C⟩
theorem OM.below(h:OM B X w v xss)(A:Below w w w'):OM B X w' v xss:=h.grown (aP A none) fun g C=>by cases C
theorem OM.names{Y:Nat->Prop}(h:OM B X w v xss)(F:∀g,g<w.heap.size->Y g->X g):OM B Y w v xss:=by have I:=fun g=>h.lt (g:=g);obtain⟨us,G,D,hi,H⟩:=h;exact⟨us,G,fun i C=>⟨(D i C).1,fun g A=>⟨((D i C).2 g A).1,fun E=>((D i C).2 g A).2 (F g ((D i C).1.lt A).2 E)⟩⟩,hi,fun g A E=>H g A (F g (I g A).2 E)⟩
theorem OM.form(h:OM B X w v xss):∃A c,v=.slice A xss c:=by
 obtain⟨us,D,_⟩:=h;rcases D.2 with⟨rfl,C⟩|⟨g,E,F,rfl,_⟩
 .exact⟨none,0,by rw[C]⟩
 .exact⟨_,_,rfl⟩
theorem OM.formP(h:OM B X w v xss)(H:0<xss.length):∃g c,v=.slice (some ⟨g,0,none⟩) xss c/\B<=g/\g<w.heap.size:=by
 obtain⟨us,E,_⟩:=h;rcases E.2 with⟨rfl,G⟩|⟨g,A,F,rfl,C,D,_⟩
 .omega
 .exact⟨g,A,rfl,C,(Array.getElem?_eq_some_iff.1 D).1⟩
theorem OM.os(h:OM B X w v xss)(C:∀j,j<xss.length->(xss j []).length<=17592186044416/\∀k,I64 ((xss j []).getD k 0)):OS B X w v xss:=by obtain⟨us,F,D,hi,G⟩:=h;exact⟨_,F,fun i A=>⟨us i,by simp[A],(D i A).1.si (C i A).1 (C i A).2,fun _ g E=>(D i A).2 g E⟩⟩
end
section
variable {B g n c:Nat} {X:Nat->Prop} {w:Wo} {l:LL}
theorem pP.lenEq{us:Nat->Va}{A:OA}(h:pP B X w (.slice A n c) us l):n=l:=by
 obtain⟨C,_⟩:=h;rcases C.2 with⟨e,F⟩|⟨g,D,E,e,_⟩
 .injection e with e1 e2 e3;omega
 .injection e with e1 e2 e3
theorem pP.hd{us:Nat->Va}(h:pP B X w (.slice g n c) us l){k:Nat}(hk:k<l):w.cell? ⟨g,k,none⟩=some (us k):=by
 have hn:=h.lenEq;subst hn;have:=World.ownsRow.cells h.1 (g:=g) rfl k (us k) (by simp[hk]);have A:((g:aA):Addr).add k=⟨g,k,none⟩:=by unfold Addr.add;by_cases C:k=0<;>simp[C]
 rw[A] at this;exact this
theorem OM.row(h:OM B X w (.slice g n c) l){k:Nat}(hk:k<l):∃u,w.cell? ⟨g,k,none⟩=some u/\OI B w u (l k [])/\∀A,u.ownBlock=some A->A≠g/\¬X A:=by obtain⟨us,h⟩:=h;exact⟨us k,h.hd hk,(h.2.1 k hk).1,fun A C=>⟨fun e=>((h.2.1 k hk).2 A C).1 (by rw[e];rfl),((h.2.1 k hk).2 A C).2⟩⟩
theorem OM.apart(h:OM B X w (.slice g n c) l){i k:Nat}(hi:i<l)(hk:k<l)(E:i≠k){u y:Va}(C:w.cell? ⟨g,i,none⟩=some u)(D:w.cell? ⟨g,k,none⟩=some y):
 ∀A,u.ownBlock=some A->y.ownBlock≠some A:=by
 obtain⟨us,h⟩:=h;rw[h.hd hi] at C;rw[h.hd hk] at D;obtain rfl:=aZ0 C;obtain rfl:=aZ0 D;exact h.2.2.1 i k hi hk E
theorem OM.frozen(h:OM B X w (.slice g n c) l)(k:Nat):w.frozen? ⟨g,k,none⟩=false:=by obtain⟨us,h⟩:=h;have hn:=h.lenEq;subst hn;exact World.ownsRow.frozenAt h.1 k
theorem OM.write{w':Wo}(h:OM B X w (.slice g n c) l){i:Nat}(hi:i<l){u:Va}(G:w.cell? ⟨g,i,none⟩=some u)(E:w.grownBy w' u.ownBlock){ys:LI}(L:OI B w' u ys):
 OM B X w' (.slice g n c) (l.set i ys):=by
 obtain⟨us,h⟩:=h;rw[h.hd hi] at G;obtain rfl:=aZ0 G;have hn:=h.lenEq;subst hn;obtain⟨J,D,F,M⟩:=h;refine⟨us,?_,fun j C=>?_,fun a b K A=>F a b (by simpa using K) (by simpa using A),M⟩
 .rw[aZ9];refine World.ownsRow.kept J E ?_;cases A:(us i).ownBlock with
  |none=>exact .inr (by intro e;cases e)
  |some b=>exact .inr ((D i hi).2 b A).1
 .rw[aZ9] at C;rw[fL];by_cases e:i=j
  .subst e;rw[iP ⟨rfl,hi⟩];exact⟨L,(D i hi).2⟩
  .rw[iN (fun h=>e h.1)];exact⟨(D j C).1.grown E fun b A H=>F j i C hi (fun I=>e I.symm) b A H,(D j C).2⟩
theorem OM.put{w1:Wo}(h:OM B X w (.slice g n c) l)(T:Below w w w1)(S:∀g,X g->g<w.heap.size){i:Nat}(hi:i<l){u:Va}{ys:LI}(F:OI w w1 u ys):
 OM B X (w1.setCell ⟨g,i,none⟩ u) (.slice g n c) (l.set i ys):=by
 have N:=h.lt (g:=g) rfl;obtain⟨us,h⟩:=h;have hn:=h.lenEq;subst hn;have M:∀j,j<l.length->∀b,(us j).ownBlock=some b->b<w.heap.size:=fun j E b A=>((h.2.1 j E).1.lt A).2;have H:=h.grown (aP T none) (fun g U=>by cases U);obtain⟨H,J,V,Z⟩:=H;have Y:=(World.ownsRow.stored H i u).1;have O:=aU w1 g i u;refine⟨fun j=>if i=j then u else us j,?_,fun j E=>?_,fun a b I A W G D=>?_,Z⟩
 .have e : ((List.range l).map us).set i u = (List.range (l.set i ys).length).map fun j => if i = j then u else us j := by
   rw[aZ9];refine eK sM fun k f L=>?_;simp only[List.getElem_set,List.getElem_map,List.getElem_range]
  rw[<-e,aZ9];exact Y
 .rw[aZ9] at E;rw[fL];by_cases e:i=j
  .subst e;rw[iP ⟨rfl,hi⟩];dsimp only;rw[iP rfl];refine⟨(F.grown O fun b A C=>?_).mono om,fun b A=>⟨fun C=>?_,fun d=>?_⟩⟩
   .have L:=(F.lt A).1;have Q:g=b:=aZ0 C;have R:g<w.heap.size:=N.2;omega
   .have L:=(F.lt A).1;have Q:g=b:=aZ0 C;have R:g<w.heap.size:=N.2;omega
   .have:=(F.lt A).1;have:=S b d;omega
  .rw[iN (fun h=>e h.1)];dsimp only;rw[iN e];exact⟨(J j E).1.grown O fun b A C=>((J j E).2 b A).1 C,(J j E).2⟩
 .rw[aZ9] at I A;dsimp only at D|-;by_cases K:i=a
  .rw[iP K] at D;rw[iN om];intro C;have:=M b A G C;have:=(F.lt D).1;omega
  .rw[iN K] at D;by_cases C:i=b
   .rw[iP C];intro P;have:=M a I G D;have:=(F.lt P).1;omega
   .rw[iN C];exact V a b I A W G D
theorem OM.swap(h:OM B X w (.slice g n c) l){a k:Nat}(F:a<l)(hk:k<l)(V:a≠k){K L:Va}(I:w.cell? ⟨g,a,none⟩=some K)(J:w.cell? ⟨g,k,none⟩=some L):
 OM B X ((w.setCell ⟨g,a,none⟩ L).setCell ⟨g,k,none⟩ K) (.slice g n c) (cY l a k):=by
 obtain⟨us,h⟩:=h;rw[h.hd F] at I;rw[h.hd hk] at J;obtain rfl:=aZ0 I;obtain rfl:=aZ0 J;have hn:=h.lenEq;subst hn;obtain⟨M,E,P,R⟩:=h;have Q:=(World.ownsRow.stored (World.ownsRow.stored M a (us k)).1 k (us a)).1;have O:=lF w g a k (us k) (us a);have G:(cY l a k).length=l.length:=gQ l a k;have N:∀j,(cY l a k).getD j []=if k=j then l a [] else if a=j then l k [] else l j []:=fun j=>by
  unfold cY;rw[fL,aZ9,fL];by_cases e:k=j
  .rw[iP ⟨e,hk⟩,iP e]
  .rw[iN (fun h=>e h.1),iN e];by_cases A:a=j
   .rw[iP ⟨A,F⟩,iP A]
   .rw[iN (fun h=>A h.1),iN A]
 have H:∀j,j<l.length->OI B ((w.setCell ⟨g,a,none⟩ (us k)).setCell ⟨g,k,none⟩ (us a)) (us j) (l j []):=fun j C=>(E j C).1.grown O fun b D e=>((E j C).2 b D).1 e;refine⟨fun j=>if k=j then us a else if a=j then us k else us j,?_,fun j C=>?_,fun i j hi C U b D=>?_,R⟩
 .have e : (((List.range l).map us).set a (us k)).set k (us a) = (List.range (cY l a k).length).map fun j => if k = j then us a else if a = j then us k else us j := by
   rw[G];refine eK sM fun j S T=>?_;simp only[List.getElem_set,List.getElem_map,List.getElem_range]
  rw[<-e,G];exact Q
 .rw[G] at C;rw[N j];dsimp only;by_cases e:k=j
  .rw[iP e,iP e];exact⟨H a F,(E a F).2⟩
  .rw[iN e,iN e];by_cases A:a=j
   .rw[iP A,iP A];exact⟨H k hk,(E k hk).2⟩
   .rw[iN A,iN A];exact⟨H j C,(E j C).2⟩
 .rw [G] at hi C;dsimp only at D |-;have key : ∀ j, (if k = j then us a else if a = j then us k else us j) = us (if k = j then a else if a = j then k else j) := fun j => by
   by_cases e:k=j
   .rw[iP e,iP e]
   .rw[iN e,iN e];by_cases A:a=j
    .rw[iP A,iP A]
    .rw[iN A,iN A]
  rw[key] at D|-;refine P _ _ ?_ ?_ ?_ b D<;>(repeat' split)<;>omega
theorem UE(l:LL)(a:Nat):cY l a a=l:=by
 unfold cY;rw[List.set_set];by_cases h:a<l
 .refine eK sM fun j A B=>?_;rw[List.getElem_set];split
  .rename_i e;subst e;rw[aZ4,aZ3 h];rfl
  .rfl
 .exact List.set_eq_of_length_le om
end
structure TwF where
 B:Nat
 tb:Nat
 n:Nat
 gr:Nat
 gg:Nat
 rb:Nat->Nat
 t0:Nat
structure TwV where
 R:fH
 gl:Nat->LL
 gv:Nat->Va
 ru:Nat->Nat->Va
 gu:Nat->List Va
 τ:Nat->Nat
def TwV.G(V:TwV):jM:=fun b g=>g∈V.gl b
structure jR(t0:Nat)(τ:Nat->Nat)(w:Wo)(u:Va)(p:LI):Prop where
 pos:0<p.length
 si:SI w u p
 own:∀g,u.ownBlock=some g->τ g=0
 far:∀g,u.ownBlock=some g->g≠t0
def A3(t0:Nat)(τ:Nat->Nat)(w:Wo)(u:Va):Option (LI)->Prop
 |none=>u=.slice none 0 0
 |some p=>jR t0 τ w u p
structure TW(F:TwF)(V:TwV)(w:Wo):Prop where
 t0lt:F.t0<F.B
 lo:∀g,V.τ g≠0->F.B<=g/\g<w.heap.size
 t1:V.τ F.tb=1
 t2:V.τ F.gr=2
 t3:V.τ F.gg=3
 t4:∀b,b<F.n->V.τ (F.rb b)=4+2*b
 t5:∀b,b<F.n->∀g,(V.gv b).ownBlock=some g->V.τ g=5+2*b
 box:Blk w F.tb 237 [.int .i64 (F.n:Int),.slice F.gr F.n F.n,.slice F.gg F.n F.n]
 reps:Blk w F.gr 25 ((List.range F.n).map fun b=>Value.slice (some ⟨F.rb b,0,none⟩) F.n F.n)
 gens:Blk w F.gg 25 ((List.range F.n).map V.gv)
 row:∀b,b<F.n->Blk w (F.rb b) 22 ((List.range F.n).map (V.ru b))
 rep:∀b x,b<F.n->x<F.n->A3 F.t0 V.τ w (V.ru b x) (V.R b x)
 gro:∀b,b<F.n->RO F.B 22 1 w (V.gv b) ((V.gu b).map fun u=>[u])
 gln:∀b,b<F.n->(V.gu b).length=(V.gl b).length
 gen:∀b,b<F.n->∀k,k<(V.gl b).length->jR F.t0 V.τ w ((V.gu b).getD k (():aV)) ((V.gl b).getD k [])
structure TwS(F:TwF)(V V':TwV)(w w':Wo):Prop where
 kx:KX F.B (fun g=>V.τ g=0) w w'
 tag:∀g,g<w.heap.size->V'.τ g=V.τ g
theorem TwS.refl(F:TwF)(V:TwV)(w:Wo):TwS F V V w w:=⟨KX.refl _ _ _,fun _ _=>rfl⟩
theorem TwS.trans{F:TwF}{V V1 V2:TwV}{w w1 w2:Wo}(h:TwS F V V1 w w1)(k:TwS F V1 V2 w1 w2):TwS F V V2 w w2:=by
 have D:=h.kx.size;refine⟨⟨h.kx.bel.trans k.kx.bel,fun g A B=>?_⟩,fun g A=>(k.tag g om).trans (h.tag g A)⟩;have C:V1.τ g=0:=by rw[h.tag g B];exact A
 exact(k.kx.box g C om).trans (h.kx.box g A B)
theorem jR.lt{t0:Nat}{τ:Nat->Nat}{w:Wo}{u:Va}{p:LI}(h:jR t0 τ w u p){g:Nat}(A:u.ownBlock=some g):g<w.heap.size:=h.si.lt h.pos A
theorem jR.on{F:TwF}{V V':TwV}{w w':Wo}{u:Va}{p:LI}(h:jR F.t0 V.τ w u p)(k:TwS F V V' w w'):jR F.t0 V'.τ w' u p:=
 ⟨h.pos,h.si.moved fun q hq B=>World.cell?_of_block (k.kx.box _ (h.own _ hq) B),fun g A=>(k.tag g (h.lt A)).trans (h.own g A),h.far⟩
theorem A3.on{F:TwF}{V V':TwV}{w w':Wo}{u:Va}{r:Option (LI)}(h:A3 F.t0 V.τ w u r)(k:TwS F V V' w w'):A3 F.t0 V'.τ w' u r:=by
 cases r with
 |none=>exact h
 |some p=>exact jR.on h k
theorem jR.form{t0:Nat}{τ:Nat->Nat}{w:Wo}{u:Va}{p:LI}(h:jR t0 τ w u p):∃B c,u=.slice (some B) p c:=by obtain⟨A,c,rfl,C⟩:=h.si;obtain⟨B,rfl,_⟩:=C.cell 0 h.pos;exact⟨B,c,rfl⟩
section
variable {F:TwF} {V:TwV} {w w':Wo}
theorem TW.size(h:TW F V w):F.B<=F.tb/\F.tb<w.heap.size:=h.lo _ (by rw[h.t1];decide)
theorem TW.new0(h:TW F V w){g:Nat}(A:w<=g):V.τ g=0:=eJ fun e=>by have:=(h.lo g e).2;omega
theorem TwS.below(h:TW F V w)(A:Below w w w'):TwS F V V w w':=⟨KX.of A (oA h.size),fun _ _=>rfl⟩
theorem TW.on(h:TW F V w)(A:Below w w w'):TW F V w':=by have D:=TwS.below h A;have G:=A.size;refine⟨h.t0lt,fun g C=>⟨(h.lo g C).1,oA ((h.lo g C).2)⟩,h.t1,h.t2,h.t3,h.t4,h.t5,h.box.belowS A,h.reps.belowS A,h.gens.belowS A,fun b B=>(h.row b B).belowS A,fun b x B E=>(h.rep b x B E).on D,fun b B=>(h.gro b B).below A zr,h.gln,fun b B k hk=>(h.gen b B k hk).on D⟩
theorem TW.rowNew(h:TW F V w){u:Va}{p:LI}(B:OI w w' u p)(D:0<p.length)(C:p.length<=17592186044416)(E:∀k,I64 (p k 0)):jR F.t0 V.τ w' u p:=
 ⟨D,B.si C E,fun g A=>h.new0 (B.lt A).1,fun g A e=>by have:=(B.lt A).1;have:=h.size;have:=h.t0lt;omega⟩
theorem TW.box3(h:TW F V w):w.cell? F.tb=some (.int .i64 (F.n:Int))/\w.cell? ⟨F.tb,1,none⟩=some (.slice F.gr F.n F.n)/\w.cell? ⟨F.tb,2,none⟩=some (.slice F.gg F.n F.n):=
 ⟨h.box.cell 0,h.box.cell 1,h.box.cell 2⟩
theorem TW.repsAt(h:TW F V w){b:Nat}(A:b<F.n):w.cell? ⟨F.gr,b,none⟩=some (.slice (some ⟨F.rb b,0,none⟩) F.n F.n):=by rw[h.reps.cell b];simp[A]
theorem TW.gensAt(h:TW F V w){b:Nat}(A:b<F.n):w.cell? ⟨F.gg,b,none⟩=some (V.gv b):=by rw[h.gens.cell b];simp[A]
theorem TW.rowAt(h:TW F V w){b x:Nat}(A:b<F.n)(B:x<F.n):w.cell? ⟨F.rb b,x,none⟩=some (V.ru b x):=by rw[(h.row b A).cell x];simp[B]
def TwV.setRep(V:TwV)(b x:Nat)(p:LI)(u:Va):TwV:={V with R:=mD V.R b x p,ru:=fun c y=>if c=b/\y=x then u else V.ru c y}
theorem TW.setRep(h:TW F V w){b x:Nat}(G:b<F.n)(N:x<F.n){u:Va}{p:LI}(I:jR F.t0 V.τ w u p):TW F (V.setRep b x p u) (w.setCell ⟨F.rb b,x,none⟩ u)/\TwS F V (V.setRep b x p u) w (w.setCell ⟨F.rb b,x,none⟩ u):=by
 have B:=aU w (F.rb b) x u;have t4:=h.t4 b G;have C:∀{g:Nat},V.τ g≠4+2*b->some g≠some (F.rb b):=fun hn e=>hn (by injection e with e;rw[e];exact t4);have K:(w.setCell ⟨F.rb b,x,none⟩ u).heap.size=w.heap.size:=by simp[World.setCell]
 have hB:=h.lo (F.rb b) (by rw[t4];omega);have D:TwS F V (V.setRep b x p u) w (w.setCell ⟨F.rb b,x,none⟩ u):=
  ⟨KX.gr B om (fun g e=>by injection e with e;subst e;exact⟨hB.1,by rw[t4];omega⟩),fun _ _=>rfl⟩
 refine⟨⟨h.t0lt,fun g B=>by rw[K];exact h.lo g B,h.t1,h.t2,h.t3,h.t4,h.t5,h.box.grown B (C (by rw[h.t1];omega)),h.reps.grown B (C (by rw[h.t2];omega)),h.gens.grown B (C (by rw[h.t3];omega)),fun c A=>?_,fun c y A J=>?_,fun c A=>(h.gro c A).grown B fun g H e=>?_,h.gln,fun c A k hk=>(h.gen c A k hk).on D⟩,D⟩
 .by_cases e:c=b
  .subst e;have:=(h.row c A).set_ x u;have E:((List.range F.n).map (V.ru c)).set x u=(List.range F.n).map ((V.setRep c x p u).ru c):=by
    refine eK sM fun k L M=>?_;simp only[List.getElem_set,List.getElem_map,List.getElem_range,TwV.setRep];by_cases e:x=k
    .subst e;simp
    .rw[iN e,iN (fun h=>e h.2.symm)]
   rw[<-E];exact this
  .have E:(V.setRep b x p u).ru c=V.ru c:=by funext y;simp[TwV.setRep,e]
   rw[E];exact(h.row c A).grown B (C (by rw[h.t4 c A];omega))
 .by_cases e:c=b/\y=x
  .obtain⟨rfl,rfl⟩:=e;show A3 F.t0 V.τ _ (if c=c/\y=y then u else V.ru c y) (mD V.R c y p c y);rw[iP ⟨rfl,rfl⟩];unfold mD;rw[iP ⟨rfl,rfl⟩];exact jR.on (V':=V.setRep c y p u) I D
  .show A3 F.t0 V.τ _ (if c=b/\y=x then u else V.ru c y) (mD V.R b x p c y);rw[iN e];unfold mD;rw[iN e];exact A3.on (V':=V.setRep b x p u) (h.rep c y A J) D
 .have:=h.t5 c A g H;exact C (by rw[this];omega) e.symm
def TwV.addGen(V:TwV)(b:Nat)(p:LI)(u v:Va):TwV:=
 {V with gl:=fun c=>if c=b then V.gl b++[p] else V.gl c,gv:=fun c=>if c=b then v else V.gv c,gu:=fun c=>if c=b then V.gu b++[u] else V.gu c,τ:=fun g=>if v.ownBlock=some g then 5+2*b else V.τ g}
theorem TW.addGen (h : TW F V w) {b : Nat} (N : b < F.n) {u v9 : Va} {p : LI} {w9 : Wo} (a : jR F.t0 V.τ w u p) (T : RO F.B 22 1 w9 v9 ((V.gu b).map (fun u => [u]) ++ [[u]])) (L : w.grownBy w9 (V.gv b).ownBlock) (E : v9.ownBlock = (V.gv b).ownBlock \/ v9.ownBlock = some w.heap.size) :
 TW F (V.addGen b p u v9) (w9.setCell ⟨F.gg,b,none⟩ v9)/\TwS F V (V.addGen b p u v9) w (w9.setCell ⟨F.gg,b,none⟩ v9):=by
 have j:=L.size;have t3:=h.t3;have O:=aU w9 F.gg b v9;have f:(w9.setCell ⟨F.gg,b,none⟩ v9).heap.size=w9.heap.size:=by simp[World.setCell]
 --the tags
 have U:∀g,g<w.heap.size->(V.addGen b p u v9).τ g=V.τ g:=fun g i=>by
  show(if v9.ownBlock=some g then 5+2*b else V.τ g)=V.τ g;by_cases e:v9.ownBlock=some g
  .rw[iP e];rcases E with E|E
   .exact(h.t5 b N g (E▸e)).symm
   .rw[E] at e;injection e with e;omega
  .rw[iN e]
 have S:∀{g:Nat},V.τ g≠5+2*b->some g≠(V.gv b).ownBlock:=fun hn e=>hn (h.t5 b N _ e.symm);have Z:∀{g:Nat},V.τ g≠3->some g≠some F.gg:=fun hn e=>hn (by injection e with e;rw[e];exact t3);have hB:=h.lo F.gg (by rw[t3];decide);have Y:∀{g:Nat},V.τ g≠0->g<w.heap.size:=fun hn=>(h.lo _ hn).2;have W:F.B<=w.heap.size:=om;have K:TwS F V (V.addGen b p u v9) w (w9.setCell ⟨F.gg,b,none⟩ v9):=by
  refine⟨(KX.gr L W fun g e=>?_).trans (KX.gr O om fun g e=>?_),U⟩
  .have:=h.t5 b N g e;exact⟨(h.lo g (by rw[this];omega)).1,by rw[this];omega⟩
  .injection e with e;subst e;exact⟨hB.1,by rw[t3];decide⟩
 have P:∀{g:Nat} {t:TypeId} {cs:List Va},V.τ g≠5+2*b->V.τ g≠3->Blk w g t cs->Blk (w9.setCell ⟨F.gg,b,none⟩ v9) g t cs:=fun I J hk=>(hk.grown L (S I)).grown O (Z J);have M:∀{g t:Nat},V.τ g=t->t≠0->(V.addGen b p u v9).τ g=t:=fun e hn=>(U _ (Y (by rw[e];exact hn))).trans e;refine⟨⟨h.t0lt,fun g R=>?_,M h.t1 dC,M h.t2 dC,M t3 dC,fun c A=>M (h.t4 c A) om,fun c A g D=>?_,P (by rw[h.t1];omega) (by rw[h.t1];decide) h.box,P (by rw[h.t2];omega) (by rw[h.t2];decide) h.reps,?_,fun c A=>P (by rw[h.t4 c A];omega) (by rw[h.t4 c A];omega) (h.row c A),fun c y A d=>(h.rep c y A d).on K,fun c A=>?_,fun c A=>?_,fun c A k hk=>?_⟩,K⟩
 .rw[f];by_cases e:v9.ownBlock=some g
  .have:=T.lt e;omega
  .have C:(V.addGen b p u v9).τ g=V.τ g:=by show(if v9.ownBlock=some g then 5+2*b else V.τ g)=V.τ g;rw[iN e]
   rw[C] at R;have:=h.lo g R;omega
 .by_cases e:c=b
  .subst e;have C:v9.ownBlock=some g:=by
    have:(V.addGen c p u v9).gv c=v9:=by show(if c=c then v9 else _)=v9;rw[iP rfl]
    rwa[this] at D
   show(if v9.ownBlock=some g then 5+2*c else V.τ g)=_;rw[iP C]
  .have C:(V.addGen b p u v9).gv c=V.gv c:=by show(if c=b then v9 else _)=_;rw[iN e]
   rw[C] at D;have:=h.t5 c A g D;exact M this om
 .have e:(List.range F.n).map (V.addGen b p u v9).gv=((List.range F.n).map V.gv).set b v9:=by
   refine eK sM fun k I J=>?_;simp only[List.getElem_set,List.getElem_map,List.getElem_range,TwV.addGen];by_cases e:k=b
   .subst e;simp
   .rw[iN e,iN (fun h=>e h.symm)]
  rw[e];exact(h.gens.grown L (S (by rw[t3];omega))).set_ b v9
 .by_cases e:c=b
  .subst e;have G:(V.addGen c p u v9).gv c=v9:=by show(if c=c then v9 else _)=v9;rw[iP rfl]
   have C:((V.addGen c p u v9).gu c).map (fun u=>[u])=(V.gu c).map (fun u=>[u])++[[u]]:=by show List.map _ (if c=c then V.gu c++[u] else _)=_;rw[iP rfl,List.map_append];rfl
   rw[G,C];refine T.grown O fun g D e=>?_;injection e with e
   subst e;rcases E with E|E
   .have:=h.t5 c A F.gg (E▸D);omega
   .rw[E] at D;injection D with D;omega
  .have G:(V.addGen b p u v9).gv c=V.gv c:=by show(if c=b then v9 else _)=_;rw[iN e]
   have C:(V.addGen b p u v9).gu c=V.gu c:=by show(if c=b then _ else _)=_;rw[iN e]
   rw[G,C];refine((h.gro c A).grown L fun g D H=>?_).grown O fun g D H=>?_
   .have I:=h.t5 b N g H;have J:=h.t5 c A g D;omega
   .injection H with H
    subst H;have:=h.t5 c A _ D;omega
 .by_cases e:c=b
  .subst e;show(if c=c then V.gu c++[u] else _).length=(if c=c then V.gl c++[p] else _).length;rw[iP rfl,iP rfl,aZ1,aZ1,h.gln c A];rfl
  .show(if c=b then _ else V.gu c).length=(if c=b then _ else V.gl c).length;rw[iN e,iN e];exact h.gln c A
 .by_cases e:c=b
  .subst e;have G:(V.addGen c p u v9).gl c=V.gl c++[p]:=by show(if c=c then _ else _)=_;rw[iP rfl]
   have C:(V.addGen c p u v9).gu c=V.gu c++[u]:=by show(if c=c then _ else _)=_;rw[iP rfl]
   have X:=h.gln c A;rw[G,aZ1,aZ2] at hk;rw[G,C];by_cases H:k<(V.gl c).length
   .have I:(V.gu c++[u]).getD k (():aV)=(V.gu c).getD k (():aV):=by simp[List.getD,aY2 (show k<(V.gu c).length from om)]
    have J:(V.gl c++[p]).getD k []=(V.gl c).getD k []:=by simp[List.getD,aY2 H]
    rw[I,J];exact(h.gen c A k H).on K
   .have Q:k=(V.gl c).length:=om;have I:(V.gu c++[u]).getD k (():aV)=u:=by rw[Q,<-X];simp[List.getD]
    have J:(V.gl c++[p]).getD k []=p:=by rw[Q];simp[List.getD]
    rw[I,J];exact a.on K
  .have G:(V.addGen b p u v9).gl c=V.gl c:=by show(if c=b then _ else _)=_;rw[iN e]
   have C:(V.addGen b p u v9).gu c=V.gu c:=by show(if c=b then _ else _)=_;rw[iN e]
   rw[G] at hk;rw[G,C];exact(h.gen c A k hk).on K
end
def SSb(P:Nat->Prop)(w:Wo)(v:Va)(xss:LL):Prop:=
 ∃A c,v=.slice A xss c/\xss.length<=17592186044416/\xss.length<=c/\∀k,k<xss.length->∃B u,A=some B/\P B.block/\w.cell? (B.add k)=some u/\SI w u (xss k [])/\(0<(xss k []).length->∀g,u.ownBlock=some g->P g)
section
variable {P Q:Nat->Prop} {w w':Wo} {v:Va} {xss:LL}
theorem SSb.imp(h:SSb P w v xss)(k:∀g,P g->g<w.heap.size->Q g):SSb Q w v xss:=by obtain⟨A,c,rfl,H,I,J⟩:=h;refine⟨A,c,rfl,H,I,fun j K=>?_⟩;obtain⟨G,u,e,L,C,F,M⟩:=J j K;have E:=World.block_lt_of_cell? _ _ C;rw[dQ] at E;exact⟨G,u,e,k _ L E,C,F,fun B g D=>k g (M B g D) (F.lt B D)⟩
theorem SSb.nil:SSb P w (():aV) []:=⟨none,0,rfl,by simp,by simp,fun k hk=>aB hk sM⟩
theorem SSb.grown{row:Option Nat}(h:SSb P w v xss)(D:w.grownBy w' row)(hn:∀g,row=some g->¬P g):SSb P w' v xss:=by obtain⟨A,c,rfl,I,J,K⟩:=h;refine⟨A,c,rfl,I,J,fun j M=>?_⟩;obtain⟨G,u,e,E,C,O,F⟩:=K j M;have N:=World.block_lt_of_cell? _ _ C;refine⟨G,u,e,E,?_,O.grown D (fun H g L B=>hn g B (F H g L)),F⟩;rw[World.cell?_of_block (w:=w) (D.block _ N (fun B=>hn _ B.symm (by rw[dQ];exact E)))];exact C
theorem OS.ssb{B:Nat}{X:Nat->Prop}(h:OS B X w v xss)(J:xss.length<=17592186044416)(G:∀g,g<B->X g):SSb (fun g=>B<=g) w v xss:=by
 have P:=fun g=>h.lt (g:=g);obtain⟨us,E,hi⟩:=h;rcases E.2 with⟨rfl,C⟩|⟨g,F,N,rfl,H,O,hn,_,_,_⟩
 .obtain rfl:xss=[]:=eH C;exact SSb.nil
 .refine⟨some (g:aA),F,rfl,J,hn,fun k hk=>?_⟩;obtain⟨u,L,K,M⟩:=hi k hk;refine⟨_,u,rfl,H,World.ownsRow.cells E (g:=g) rfl k u L,K,fun C A I=>?_⟩;rcases Nat.lt_or_ge A B with D|D
  .exact aB (G A D) (M C A I).2
  .exact D
theorem SSb.takeC{A:OA}{n c:Nat}(h:SSb P w (.slice A n c) xss){k:Nat}(hk:k<=xss):SSb P w (.slice A k k) (xss.take k):=by
 obtain⟨F,c',e,G,H,E⟩:=h;injection e with e1 e2 e3;subst e1;have C:(xss.take k).length=k:=by rw[aY3];omega
 refine⟨A,k,by rw[C],om,om,fun j B=>?_⟩;rw[C] at B;have D:(xss.take k).getD j []=xss j []:=by simp[List.getD,List.getElem?_take,B]
 rw[D];exact E j om
end
def xW(w:Wo)(A:Addr)(m:Nat):List Va:=(List.range m).map fun k=>(w.cell? (A.add k)).getD (():aV)
theorem BE(w:Wo)(A:Addr)(m:Nat):(xW w A m).length=m:=by simp[xW]
theorem BO.hds{w:Wo}{A:OA}{c:Nat}{B:LL}(h:BO w A c B)(K:0<B.length):∃D,A=some D/\(∀j u,(xW w D B)[j]?=some u->w.cell? (D.add j)=some u)/\(∀u∈xW w D B,u.oneCell'=true)/\
 ∀j,j<B.length->∃u,(xW w D B)[j]?=some u/\SI w u (B j []):=by
 obtain⟨D,_,e,_,_⟩:=h.cell 0 K;have key:∀j,j<B.length->∃u,(xW w D B)[j]?=some u/\w.cell? (D.add j)=some u/\SI w u (B j []):=fun j C=>by obtain⟨N,u,H,F,L⟩:=h.cell j C;rw[e] at H;obtain rfl:=aZ0 H;exact⟨u,by simp[xW,C,F],F,L⟩
 refine⟨D,e,fun j u E=>?_,fun u E=>?_,fun j C=>?_⟩
 .have C:j<B:=by
   rcases Nat.lt_or_ge j B with h|h
   .exact h
   .rw[aY4 (by rw[BE];exact h)] at E;cases E
  obtain⟨u',G,F,_⟩:=key j C;rw[G] at E;obtain rfl:=aZ0 E;exact F
 .obtain⟨j,C,rfl⟩:=eI.1 E;rw[BE] at C;obtain⟨u',G,_,⟨M,c',rfl,_⟩⟩:=key j C;rw[aZ3 (by rw[BE];exact C)] at G;rw[aZ0 G];rfl
 .obtain⟨u,I,_,J⟩:=key j C;exact⟨u,I,J⟩
theorem pV{a b:LL}{i:Nat}(h:i<a):(a++b).getD i []=a i []:=by simp[List.getD,aY2 h]
theorem oJ{a b:LL}{i:Nat}(h:a<=i):(a++b).getD i []=b (i-a.length) []:=by simp[List.getD,eL h]
theorem LH(size:Nat)(A:OA)(c:Nat)(w:Wo):Src prog size 25 (.slice A 0 c) 0 [] w:=by
 cases A with
 |none=>exact Src.ofNil w underlying25 c
 |some ad=>exact Src.ofSlice w underlying25 ad 0 c [] sM (fun j u h=>by simp at h) (fun u h=>by simp at h)
section
variable {ops:Array Oper} {rest:List Oper} {o:Oper} {a:Act} {w:Wo} {K:Act->Wo->Prop} {Q:Exit->Act->Wo->Prop} {E:Prop}
theorem gz(s x:Operand)
 (b:o.op=.call {callee:=.builtin .append,args:=#[s,x],argTypes:=#[25,25]})
 (B:Nat)(wA:Wo)(v u:Va)(xss F:LL)(d:a.eval s=v)(c:OS B (fun _=>False) w v xss)(k:a.eval x=u)
 (f:SS wA u F)(V:Below wA wA w)(t:wA<=B)
 (φ:xss.length+F.length<=4398046511104)(hB:B<=w)
 (h:∀v' w',OS B (fun _=>False) w' v' (xss++F)->w.grownBy w' v.ownBlock->K (a.put o.dst v') w'):o.wp prog a w K Q:=by
 obtain⟨R,hi,ι,κ,μ⟩:=info_parts infoInts;have j:=fun g=>c.lt (g:=g);obtain⟨us,H,X⟩:=c;have η:us.length=xss.length:=by have:=H.1;omega
 have O:=f.below V zr;obtain⟨L,G,rfl,O⟩:=O;rcases Nat.eq_zero_or_pos F with A|A
 .obtain rfl:F=[]:=eH A;have N:(Builtin.append_ #[25,25] o.type #[v,.slice L ([]:LL).length G]).run prog w=.ok v w:=by
   rcases H.2 with⟨rfl,A⟩|⟨g,σ,τ,rfl,_,_,δ,_⟩
   .exact run_append_nothing (P:=prog) w 25 25 o.type 22 R underlying25 hi none _ _ zr _ (LH _ L G w)
   .exact run_append_nothing (P:=prog) w 25 25 o.type 22 R underlying25 hi _ _ _ δ _ (LH _ L G w)
  unfold Oper.wp execOp;simp only[b,resolve,invoke,builtin,Sem.run_bind,Sem.run_pure,Result.andThen_ok,List.map_toArray,List.map_cons,List.map_nil,d,k,N];exact h v w (by simpa using⟨us,H,X⟩) (World.grownBy.refl _ _)
 .obtain⟨M,rfl,W,r,ε⟩:=O.hds A;obtain⟨v',w',N,ν,S,_,E⟩:=run_append_own_at (P:=prog) w B 25 o.type 22 R (():aV) 1 24 underlying25 hi ι κ μ rfl dC v xss us H M F G (xW w M F) (by rw[BE];omega) W r (by unfold maxLen;omega) om hB;unfold Oper.wp execOp;simp only[b,resolve,invoke,builtin,Sem.run_bind,Sem.run_pure,Result.andThen_ok,List.map_toArray,List.map_cons,List.map_nil,d,k,N];refine h v' w' ⟨us++xW w M F,by rw[aZ1];exact ν,fun i z=>?_⟩ S;rw[aZ1] at z;by_cases Y:i<xss
  .obtain⟨y,J,I,l⟩:=X i Y;rw[pV Y];refine⟨y,by rw[aY2 om];exact J,I.grown S (fun A C D=>(l A C D).1),fun A C D=>⟨?_,fun h=>h⟩⟩;rcases E with E|E
   .rw[E];exact(l A C D).1
   .rw[E];intro T;have:=I.lt A D;injection T with T;omega
  .obtain⟨y,J,I⟩:=ε (i-xss.length) om;rw[oJ om];have θ:SI wA y (F (i-xss.length) []):=by
    obtain⟨ξ,ρ,m,ζ⟩:=f;injection m with f1 f2 f3;subst f1;obtain⟨π,χ,n,p,q⟩:=ζ.cell (i-xss.length) om;obtain rfl:=aZ0 n;have U:=aE V p;rw[W _ _ J] at U;rw[aZ0 U];exact q
   have Z:0<(F (i-xss.length) []).length->∀C,y.ownBlock=some C->C<B:=fun A C D=>aY1 (θ.lt A D) t;refine⟨y,by rw[eL om,η];exact J,I.grown S (fun A C D e=>?_),fun A C D=>⟨fun e=>?_,fun h=>h⟩⟩
   .have:=Z A C D;have:=j C e;omega
   .have:=Z A C D;rcases E with E|E
    .rw[E] at e;have:=j C e;omega
    .rw[E] at e;have:=aZ0 e;omega
theorem LQ(G:o.guard=none)(s x:Operand)
 (I:o.op=.call {callee:=.builtin .append,args:=#[s,x],argTypes:=#[25,25]})
 (B:Nat)(wA:Wo)(v u:Va)(xss A:LL)(L:a.eval s=v)(J:OS B (fun _=>False) w v xss)(N:a.eval x=u)
 (M:SS wA u A)(F:Below wA wA w)(E:wA<=B)
 (H:xss.length+A.length<=4398046511104)(hB:B<=w)
 (h:∀v' w',OS B (fun _=>False) w' v' (xss++A)->w.grownBy w' v.ownBlock->wpList prog ops Q rest (a.put o.dst v') w'):wpList prog ops Q (o::rest) a w:=
 wpList_plain G fun K hK=>gz s x I B wA v u xss A L J N M F E H hB fun v' w' C D=>hK _ _ (h v' w' C D)
end
end
section
open Go.RowKit Go.ChangeMaps Go.MapKept
def kI:List (By×Va)->Nat->List MapEntry
 |[],_=>[]
 |p::l,i=>{key:=.string p.1,val:=p.2,born:=i}::kI l (i+1)
theorem FP:∀(l:List (By×Va)) (i:Nat) (p:By×Va),kI (l++[p]) i=kI l i++[{key:=.string p.1,val:=p.2,born:=i+l.length}]
 |[],i,p=>rfl
 |q::l,i,p=>by rw[List.cons_append,kI,FP l (i+1) p,kI,List.cons_append,List.length_cons,show i+1+l.length=i+(l.length+1) from om]
theorem C7:∀{l:List (By×Va)} {i:Nat} {e:MapEntry},e∈kI l i->∃j,j<l.length/\e={key:=.string (l j (ByteArray.empty,.nilFunc)).1,val:=(l j (ByteArray.empty,.nilFunc)).2,born:=i+j}
 |[],i,e,h=>by simp[kI] at h
 |q::l,i,e,h=>by
  rw[kI,List.mem_cons] at h;rcases h with rfl|h
  .exact⟨0,by simp,rfl⟩
  .obtain⟨j,B,A⟩:=C7 h;exact⟨j+1,by simpa using B,by rw[A,show i+1+j=i+(j+1) from om];rfl⟩
theorem FO:∀(l:List (By×Va)) (i:Nat),(kI l i).map (·.born)=List.range' i l.length
 |[],i=>rfl
 |q::l,i=>by rw[kI,List.map_cons,FO l (i+1),List.length_cons,List.range'_succ]
def gS(w:Wo)(b:Nat)(l:List (By×Va)):Prop:=w.heap[b]?=some (.map (kI l 0).toArray l.length)
theorem gS.lt{w:Wo}{b:Nat}{l:List (By×Va)}(h:gS w b l):b<w.heap.size:=by
 unfold gS at h;rcases Nat.lt_or_ge b w with A|A
 .exact A
 .rw[Array.getElem?_eq_none A] at h;cases h
theorem gS.grown{w w':Wo}{b:Nat}{l:List (By×Va)}{row:Option Nat}(h:gS w b l)(A:w.grownBy w' row)(B:some b≠row):gS w' b l:=(A.block b h.lt B).trans h
theorem gS.on{w w':Wo}{b:Nat}{l:List (By×Va)}(h:gS w b l)(A:Below w w w'):gS w' b l:=(A.block b h.lt).trans h
theorem AK{w:Wo}{b:Nat}(o:Obj):w.grownBy (setBlock w b o) (some b):=⟨rfl,rfl,rfl,by simp[setBlock],fun k hk A=>by have:b≠k:=fun e=>A (by rw[e]);simp[setBlock,this]⟩
theorem JC{a b:By}(h:a≠b):(a==b)=false:=by
 cases e:a==b with
 |false=>rfl
 |true=>exact aB ((bytes_beq a b).1 e) h
theorem zN:∀(l:List (By×Va)) (i j:Nat) (s:By),(∀p∈l,p.1≠s)->Instr.findNow .string (.string s) (kI l i) j=some none
 |[],i,j,s,_=>rfl
 |q::l,i,j,s,h=>by have A:(s==q.1)=false:=JC fun e=>h q sM e.symm;simp only[kI,Instr.findNow,Instr.sameNow,A];exact zN l (i+1) (j+1) s fun p B=>h p (by simp[B])
theorem FN:∀(l:List (By×Va)) (i j:Nat) (s:By) (v:Va),l.Pairwise (fun p q=>p.1≠q.1)->(s,v)∈l->∃k,Instr.findNow .string (.string s) (kI l i) j=some (some (k,v))
 |[],i,j,s,v,_,h=>by simp at h
 |q::l,i,j,s,v,hp,h=>by
  rw[List.pairwise_cons] at hp;rw[List.mem_cons] at h;rcases h with h|h
  .subst h;refine⟨j,?_⟩;simp only[kI,Instr.findNow,Instr.sameNow,(bytes_beq s s).2 rfl]
  .have A:(s==q.1)=false:=JC fun e=>hp.1 _ h e.symm;obtain⟨k,hk⟩:=FN l (i+1) (j+1) s v hp.2 h;refine⟨k,?_⟩;simp only[kI,Instr.findNow,Instr.sameNow,A];exact hk
section
variable {P:Program} {T K E:TypeId} (hT:P.underlying T=some (.map K E)) (hK:P.underlying K=some .string)
include hT hK
theorem bP{w:Wo}{b:Nat}{l:List (By×Va)}(h:gS w b l)(s:By)(v:Va)(F:∀p∈l,p.1≠s):
 ∃w',(Instr.mapUpdate T (.map (some b)) (.string s) v).run P w=.ok () w'/\gS w' b (l++[(s,v)])/\w.grownBy w' (some b)/\w'.heap.size=w.heap.size:=by
 have E:=h.lt;unfold gS at h;refine⟨setBlock w b (.map (kI (l++[(s,v)]) 0).toArray (l.length+1)),?_,?_,AK _,by simp[setBlock]⟩
 .have B:(Instr.checkKey false 10000 K (.string s)).run P w=.ok () w:=Go.MapKept.run_checkKey (P:=P) (w:=w) (k:=.string s) hK (by simp[IsKey]) false 9999;have C:=Go.MapKept.run_findKey (P:=P) (w:=w) hK (zN l 0 0 s F);have D:=Go.MapKept.run_getObj_map (P:=P) h;have A:=Go.MapKept.run_setObj_map (P:=P) (.map (kI (l++[(s,v)]) 0).toArray (l.length+1)) h;rw[FP,Nat.zero_add] at A|-;simp only[Instr.mapUpdate,Sem.run_bind,run_underlying hT,Result.andThen,D,B,C];simp only[List.push_toArray];exact A
 .unfold gS setBlock;simp[E]
theorem TS{w:Wo}{b:Nat}{l:List (By×Va)}(h:gS w b l)(s:By)(D:∀p∈l,p.1≠s){z:Va}(F:(zeroValue E).run P w=.ok z w):
 (Instr.lookup T (.map (some b)) (.string s) false).run P w=.ok z w:=by
 unfold gS at h;have A:∀e,(Instr.checkKey e 10000 K (.string s)).run P w=.ok () w:=fun e=>Go.MapKept.run_checkKey (P:=P) (w:=w) (k:=.string s) hK (by simp[IsKey]) e 9999;have B:=Go.MapKept.run_findKey (P:=P) (w:=w) hK (zN l 0 0 s D);have C:=Go.MapKept.run_getObj_map (P:=P) h;simp only[Instr.lookup,Sem.run_bind,run_underlying hT,Result.andThen,C,Sem.run_pure,A,B,F];rfl
theorem F8 {w : Wo} {b : Nat} {l : List (By × Va)} (h : gS w b l) (s : By) (v : Va) (D : l.Pairwise (fun p q => p.1 ≠ q.1)) (E : (s, v) ∈ l) :
 (Instr.lookup T (.map (some b)) (.string s) false).run P w=.ok v w:=by
 unfold gS at h;obtain⟨k,hk⟩:=FN l 0 0 s v D E;have A:∀e,(Instr.checkKey e 10000 K (.string s)).run P w=.ok () w:=fun e=>Go.MapKept.run_checkKey (P:=P) (w:=w) (k:=.string s) hK (by simp[IsKey]) e 9999;have B:=Go.MapKept.run_findKey (P:=P) (w:=w) hK hk;have C:=Go.MapKept.run_getObj_map (P:=P) h;simp only[Instr.lookup,Sem.run_bind,run_underlying hT,Result.andThen,C,Sem.run_pure,A,B];rfl
end
end
section
open Go.RowKit
structure PS(w:Wo)(g:Nat)(lv:Va)(toks:List (List Va))(i n k:Nat):Prop where
 blk:Blk w g 86 [lv,(i:aV),(n:aV),(k:aV)]
 tok:RG 4 w lv toks
 sep:∀b,lv.ownBlock=some b->b<g
 small:toks.length<=1000/\i<=1000/\n<=100000/\k<=1000
def ks(w:Wo)(v:Va)(e:Ending)(w':Wo):Prop:=e=.returned v/\∃m,w'=w.drewN m
section
variable {w w':Wo} {g:Nat} {lv:Va} {toks:List (List Va)} {i n k:Nat}
theorem RG.moved{s:Nat}{l:List (List Va)}(h:RG s w lv l)(D:∀p:Addr,lv.ownBlock=some p.block->p.block<w.heap.size->w'.cell? p=w.cell? p):RG s w' lv l:=by obtain⟨A,c,rfl,h⟩:=h;refine⟨A,c,rfl,fun k hk=>?_⟩;obtain⟨B,e,C⟩:=h k hk;subst e;exact⟨B,rfl,fun j u E=>by have:=C j u E;rw[D _ (by rw[dQ];rfl) (World.block_lt_of_cell? _ _ this)];exact this⟩
theorem PS.kept(h:PS w g lv toks i n k){A C B:Nat}(E:w.grownBy w' (some g))(D:Blk w' g 86 [lv,(A:aV),(C:aV),(B:aV)])(H:A<=1000/\C<=100000/\B<=1000):PS w' g lv toks A C B:=
 ⟨D,h.tok.moved fun p G F=>World.cell?_of_block (E.block _ F fun e=>by have:=h.sep _ G;injection e with e;omega),h.sep,h.small.1,H⟩
theorem PS.grown(h:PS w g lv toks i n k){row:Option Nat}(A:w.grownBy w' row)(B:∀b,row=some b->g<b):PS w' g lv toks i n k:=
 ⟨h.blk.grown A (fun e=>oA (B g e.symm)),h.tok.moved fun p D C=>World.cell?_of_block (A.block _ C fun e=>oB (h.sep _ D) (B _ e.symm)),h.sep,h.small⟩
theorem PS.drewN(h:PS w g lv toks i n k)(m:Nat):PS (w.drewN m) g lv toks i n k:=h.grown (row:=none) (aP (aY w m) none) (fun b e=>by cases e)
end
theorem tW(w:Wo)(g:Nat)(lv:Va)(toks:List (List Va))(i n k:Nat)(h:PS w g lv toks i n k)(hi:i<toks)(C:Int)(hk:(toks i [])[0]?=some (C:aV)):
 Calls prog 73 #[.pointer g] w (ks w (C:aV)):=by
 have K:=h.small;obtain⟨A,c,rfl,_⟩:=id h.tok;obtain⟨D,rfl,B,F⟩:=h.tok.elt hi;have G:w.cell? g=some (.slice (some D) toks c):=h.blk.cell 0;have H:w.cell? (g 1 none)=some (i:aV):=h.blk.cell 1;have I:=B _ hk;have E:(i:Int)<(toks.length:Int):=om;have J:decide ((i:Int)<(toks.length:Int))=true:=dE E;clear h hk B F;generalize toks=l at*;go_enter func73,ntmps73;go_wp2_with fail
 go_quiet (fail)
 go_wp2_with fail
 go_quiet (fail)
 go_wp2;go_ret;exact⟨rfl,_,World.drewN_drewN _ _ _⟩
theorem XY(w:Wo)(g:Nat)(lv:Va)(toks:List (List Va))(i n k:Nat)(h:PS w g lv toks i n k)(hi:i<toks)(C:Int)(hk:(toks i [])[3]?=some (C:aV)):
 Calls prog 36 #[.pointer g] w (ks w (C:aV)):=by
 have K:=h.small;obtain⟨A,c,rfl,_⟩:=id h.tok;obtain⟨B,rfl,F,D⟩:=h.tok.elt hi;have G:w.cell? g=some (.slice (some B) toks c):=h.blk.cell 0;have H:w.cell? (g 1 none)=some (i:aV):=h.blk.cell 1;have I:w.cell? ⟨(B.add (i*4)).block,(B.add (i*4)).off+3,none⟩=some (C:aV):=D 2 _ hk;have E:(i:Int)<(toks.length:Int):=om;have J:decide ((i:Int)<(toks.length:Int))=true:=dE E;clear h hk F D;generalize toks=l at*;go_enter func36,ntmps36;go_wp2_with fail
 go_quiet (fail)
 go_wp2_with fail
 go_quiet (fail)
 go_wp2;go_ret;exact⟨rfl,_,World.drewN_drewN _ _ _⟩
theorem DR(w:Wo)(g:Nat)(lv:Va)(toks:List (List Va))(i n k:Nat)(h:PS w g lv toks i n k)(t:By)(hi:i<toks)(tx:By)(H:(toks i [])[0]?=some (.int .i64 3))(I:(toks i [])[1]?=some (.string tx))(J:(tx.toList==t.toList)=true):
 Calls prog 72 #[.pointer g,.string t] w (fun e w'=>e=.returned (.bool true)/\w.grownBy w' (some g)/\PS w' g lv toks (i+1) n k):=by
 have Y:=h.small;have S:PS w.drew g lv toks i n k:=h.grown (row:=none) (aP (aI w) none) (fun b e=>by cases e);obtain⟨A,c,rfl,_⟩:=id h.tok;obtain⟨C,rfl,U,N⟩:=h.tok.elt hi;have O:=zh (tW w.drew g _ toks i n k S hi _ H);have G:w.cell? ⟨(C.add (i*4)).block,(C.add (i*4)).off+1,none⟩=some (.string tx):=N 0 _ I;have P:(i:Int)<(toks.length:Int):=om;have W:decide ((i:Int)<(toks.length:Int))=true:=dE P;clear U N H I;have E:w.cell? g=some (.slice (some C) toks c):=h.blk.cell 0;have F:w.cell? (g 1 none)=some (i:aV):=h.blk.cell 1;have X:w.frozen? (g 1 none)=false:=h.blk.frozen 1;have D:=zh h;clear h;generalize hL:toks=L at*;have V:=zh hL;clear hL;go_enter func72,ntmps72;go_wp2_with fail;refine tc 18 E F G fun B=>?_;refine tq 0 ?_;try simp only[tz]
 refine tn 1 fun K hK=>?_;go_simp;apply(O.out).mono;rintro e Z⟨rfl,m,rfl⟩;refine hK.out _ _ (⟨E,F,G⟩) ?_;clear hK K B;intro B;try simp only[tz]
 refine tq 2 ?_;refine tq 3 ?_;refine tq 4 ?_;refine tq 5 ?_;refine tq 6 ?_;refine tq 7 ?_;refine tq 8 ?_;refine tq 9 ?_;refine tq 10 ?_;refine tq 11 ?_;refine tq 12 ?_;refine tq 13 ?_;refine tq 14 ?_;refine tq 15 ?_;refine tq 16 ?_;try simp only[tz]
 refine tn 17 fun K hK=>?_;go_simp;refine hK.out _ _ B fun _=>?_;refine tw ?_;try simp only[tz]
 clear B;go_wp2;go_ret;have T:=aP (aY w (1+m)) (some g);have J:=D.blk.belowS (aY w (1+m));have R:=J.set_ 1 (.int .i64 ((i:Int)+1));have M:=bB T (aS (p:=(g 1 none)) (World.grownBy.refl _ _) (.inl rfl) (.int .i64 ((i:Int)+1)));exact⟨rfl,M,D.kept M (by simpa using R) ⟨om,om,om⟩⟩
theorem X5(w:Wo)(g:Nat)(lv:Va)(toks:List (List Va))(i n k:Nat)(h:PS w g lv toks i n k)(t:By)(hi:i<toks)(tx:By)(H:(toks i [])[0]?=some (.int .i64 3))(I:(toks i [])[1]?=some (.string tx))(V:(tx.toList==t.toList)=false):
 Calls prog 72 #[.pointer g,.string t] w (fun e w'=>e=.returned (.bool false)/\w.grownBy w' (some g)/\PS w' g lv toks i n k):=by
 have W:=h.small;have Q:PS w.drew g lv toks i n k:=h.grown (row:=none) (aP (aI w) none) (fun b e=>by cases e);obtain⟨A,c,rfl,_⟩:=id h.tok;obtain⟨C,rfl,R,M⟩:=h.tok.elt hi;have N:=zh (tW w.drew g _ toks i n k Q hi _ H);have G:w.cell? ⟨(C.add (i*4)).block,(C.add (i*4)).off+1,none⟩=some (.string tx):=M 0 _ I;have O:(i:Int)<(toks.length:Int):=om;have T:decide ((i:Int)<(toks.length:Int))=true:=dE O;clear R M H I;have E:w.cell? g=some (.slice (some C) toks c):=h.blk.cell 0;have F:w.cell? (g 1 none)=some (i:aV):=h.blk.cell 1;have U:w.frozen? (g 1 none)=false:=h.blk.frozen 1;have D:=zh h;clear h;generalize hL:toks=L at*;have S:=zh hL;clear hL;go_enter func72,ntmps72;go_wp2_with fail;refine tc 18 E F G fun B=>?_;refine tq 0 ?_;try simp only[tz]
 refine tn 1 fun K hK=>?_;go_simp;apply(N.out).mono;rintro e X⟨rfl,m,rfl⟩;refine hK.out _ _ (⟨E,F,G⟩) ?_;clear hK K B;intro B;try simp only[tz]
 refine tq 2 ?_;refine tq 3 ?_;refine tq 4 ?_;refine tq 5 ?_;refine tq 6 ?_;refine tq 7 ?_;refine tq 8 ?_;refine tq 9 ?_;refine tq 10 ?_;refine tq 11 ?_;refine tq 12 ?_;refine tq 13 ?_;refine tq 14 ?_;refine tq 15 ?_;refine tq 16 ?_;try simp only[tz]
 refine tn 17 fun K hK=>?_;go_simp;refine hK.out _ _ B fun _=>?_;refine tw ?_;try simp only[tz]
 clear B;go_wp2;go_ret;have J:=aP (aY w (1+m)) (some g);exact⟨rfl,J,D.kept J (D.blk.belowS (aY w (1+m))) ⟨om,om,om⟩⟩
theorem DQ(w:Wo)(g:Nat)(lv:Va)(toks:List (List Va))(i n k:Nat)(h:PS w g lv toks i n k)(t:By)(hi:i<toks)(H:Int)(F:(toks i [])[0]?=some (H:aV))(P:(H==3)=false):
 Calls prog 72 #[.pointer g,.string t] w (fun e w'=>e=.returned (.bool false)/\w.grownBy w' (some g)/\PS w' g lv toks i n k):=by
 have Q:=h.small;have M:PS w.drew g lv toks i n k:=h.grown (row:=none) (aP (aI w) none) (fun b e=>by cases e);obtain⟨A,c,rfl,_⟩:=id h.tok;have I:=zh (tW w.drew g _ toks i n k M hi _ F);clear F;have D:w.cell? g=some (.slice A toks c):=h.blk.cell 0;have E:w.cell? (g 1 none)=some (i:aV):=h.blk.cell 1;have O:w.frozen? (g 1 none)=false:=h.blk.frozen 1;have C:=zh h;clear h;generalize hL:toks=L at*;have N:=zh hL;clear hL;go_enter func72,ntmps72;go_wp2_with fail;refine tb 18 D E fun B=>?_;refine tq 0 ?_;try simp only[tz]
 refine tn 1 fun K hK=>?_;go_simp;apply(I.out).mono;rintro e R⟨rfl,m,rfl⟩;refine hK.out _ _ (⟨D,E⟩) ?_;clear hK K B;intro B;try simp only[tz]
 refine tq 2 ?_;refine tq 3 ?_;try simp only[tz]
 refine tu 4 ?_;try simp only[tz]
 refine tu 5 ?_;try simp only[tz]
 refine tu 6 ?_;try simp only[tz]
 refine tu 7 ?_;try simp only[tz]
 refine tu 8 ?_;try simp only[tz]
 refine tu 9 ?_;try simp only[tz]
 refine tu 10 ?_;try simp only[tz]
 refine tu 11 ?_;try simp only[tz]
 refine tu 12 ?_;try simp only[tz]
 refine tu 13 ?_;try simp only[tz]
 refine tu 14 ?_;try simp only[tz]
 refine tu 15 ?_;try simp only[tz]
 refine tu 16 ?_;try simp only[tz]
 refine tn 17 fun K hK=>?_;go_simp;refine hK.out _ _ B fun _=>?_;refine tw ?_;try simp only[tz]
 clear B;go_wp2;go_ret;have G:=aP (aY w (1+m)) (some g);exact⟨rfl,G,C.kept G (C.blk.belowS (aY w (1+m))) ⟨om,om,om⟩⟩
theorem OM.app{B:Nat}{X:Nat->Prop}{w w1:Wo}{g n c:Nat}{l:LL}(h:OM B X w (.slice g n c) l)(Z:∀g,X g->g<w.heap.size){i:Nat}(hi:i<l){u u':Va}(U:w.cell? ⟨g,i,none⟩=some u)
 (R:w.grownBy w1 u.ownBlock){ys:LI}(d:OI B w1 u' ys)(o:u'.ownBlock=u.ownBlock\/u'.ownBlock=some w.heap.size):
 OM B X (w1.setCell ⟨g,i,none⟩ u') (.slice g n c) (l.set i ys):=by
 have S:=h.lt (g:=g) rfl;obtain⟨us,h⟩:=h;rw[h.hd hi] at U;obtain rfl:=aZ0 U;have hn:=h.lenEq;subst hn;have Q:∀j,j<l.length->∀b,(us j).ownBlock=some b->b<w.heap.size:=fun j G b D=>((h.2.1 j G).1.lt D).2;obtain⟨W,H,L,m⟩:=h;have Y:w1.ownsRow B 22 1 (.slice g l c) l ((List.range l).map us):=by
  refine World.ownsRow.kept W R ?_;cases I:(us i).ownBlock with
  |none=>exact .inr (by intro e;cases e)
  |some b=>exact .inr ((H i hi).2 b I).1
 have f:=(World.ownsRow.stored Y i u').1;have T:=aU w1 g i u';have K:∀b,u'.ownBlock=some b->(us i).ownBlock=some b\/b=w.heap.size:=fun b I=>by
  rcases o with e|e
  .exact .inl (e.symm.trans I)
  .exact .inr (aZ0 (I.symm.trans e))
 refine⟨fun j=>if i=j then u' else us j,?_,fun j G=>?_,fun a b J D P E F=>?_,m⟩
 .have e : ((List.range l).map us).set i u' = (List.range (l.set i ys).length).map fun j => if i = j then u' else us j := by
   rw[aZ9];refine eK sM fun k p q=>?_;simp only[List.getElem_set,List.getElem_map,List.getElem_range]
  rw[<-e,aZ9];exact f
 .rw[aZ9] at G;rw[fL];by_cases e:i=j
  .subst e;rw[iP ⟨rfl,hi⟩];dsimp only;rw[iP rfl];refine⟨d.grown T fun b D A=>?_,fun b D=>⟨fun A=>?_,fun V=>?_⟩⟩
   .have O:g=b:=aZ0 A;rcases K b D with C|C
    .exact((H i hi).2 b C).1 (by rw[O.symm];rfl)
    .have:=S.2;omega
   .have O:g=b:=aZ0 A;rcases K b D with C|C
    .exact((H i hi).2 b C).1 (by rw[O.symm];rfl)
    .have:=S.2;omega
   .rcases K b D with C|C
    .exact((H i hi).2 b C).2 V
    .have:=Z b V;omega
  .rw[iN (fun h=>e h.1)];dsimp only;rw[iN e];exact⟨((H j G).1.grown R fun b I A=>L j i G hi (fun N=>e N.symm) b I A).grown T fun b D A=>((H j G).2 b D).1 A,(H j G).2⟩
 .rw[aZ9] at J D;dsimp only at F|-;by_cases M:i=a
  .rw[iP M] at F;rw[iN om];intro A;rcases K E F with C|C
   .exact L a b J D P E (by rw[<-M];exact C) A
   .have:=Q b D E A;omega
  .rw[iN M] at F;by_cases A:i=b
   .rw[iP A];intro N;rcases K E N with C|C
    .exact L a b J D P E F (by rw[<-A];exact C)
    .have:=Q a J E F;omega
   .rw[iN A];exact L a b J D P E F
