/- Parts. -/
import Derived.Test.YtnpfliklhbkonaaGreatDoorZA41
set_option maxRecDepth 99999
set_option maxHeartbeats 0
set_option linter.unusedVariables false
namespace Go.Proofs.YtnpfliklhbkonaaGreatDoor
open Go.Proofs.Tryz
section
open Go.RowKit
theorem PK{R:fH}{G:jM}{n b x:Nat}{r:LI}(h:iR n 0 R G)(A:R b x=some r):GenP n (G 0) r/\dN b r/\r b 0=(x:Int):=by
 have C:=rJ h.rep (f:=n-0) (b:=0) rfl (aZ5 _) h.comp (fun g D=>(h.last g D).elim);have F:=h.rep.lt _ _ _ A;have E:∀c,c<=n->∀p,Ch R n c p->Ch R n 0 p:=fun c=>by
  induction c with
  |zero=>intro _ p B;exact B
  |succ c ih=>intro H p B;exact ih om p (ig h.rep om B)
 exact⟨(C r).1 (E b om r (NT h.rep A)),h.rep.fix _ _ _ A,h.rep.to _ _ _ A⟩
theorem uW{R:fH}{G:jM}{n:Nat}(h:iR n 0 R G):lQ n (GenP n (G 0)):=GenP.grp fun g A=>(h.fix 0 g zr A).1
theorem L6{R:fH}{G:jM}{n b c x:Nat}{r p s:LI}(h:iR n 0 R G)(A:c<n)(H:b<c)(K:GenP n (G 0) r)(L:StC (GenP n (G 0)) n b r c p)(O:R c x=some s)(J:∀y t,R c y=some t->p x 0<=p y 0):StC (GenP n (G 0)) n b r (c+1) (aL s p):=by obtain⟨C,D,E⟩:=PK h O;refine Y5 (uW h) A H K L C D fun t B I=>?_;have M:=(uW h).is t B;have F:=M.nat A;obtain⟨u,N⟩:=(IG h A (x:=(t c 0).toNat)).2 ⟨t,B,I,F.2⟩;rw[E,aZ8];exact J _ u N
theorem StC.grp{n b C:Nat}{Γ:LI->Prop}{r p:LI}(hΓ:lQ n Γ)(B:Γ r)(h:StC Γ n b r C p):Γ p:=by obtain⟨⟨q,A,_,rfl⟩,_⟩:=h;exact hΓ.mul _ _ A B
theorem S4(F:TwF)(V:TwV)(w:Wo)(b:Nat)(r:LI)(rv:Va)(h:TW F V w)(a:iR F.n 0 V.R V.G)(hn:F.n<=64)(ω:b<F.n)(Ac:jR F.t0 V.τ w rv r)(N:GenP F.n (V.G 0) r):
 Calls prog 155 #[.pointer F.tb,rv,b] w (fun e w'=>∃u q,e=.returned u/\jR F.t0 V.τ w' u q/\(u=rv\/∀g,u.ownBlock=some g->w.heap.size<=g)/\IsP F.n q/\StC (GenP F.n (V.G 0)) F.n b r F.n q/\Below w w w'):=by
 have H:=zh h;have S:=zh a;have Ag:=zh Ac;have ξ:=zh N;have π:=zh (uW a);have σ:=zh (T9 (uW a) ω N);clear h a Ac N;have Bc:=fun(w:Wo) (l c:Nat)=>run_neq_slice_nil (P:=prog) w 22 3 none l c underlying22;have Bd:=fun(w:Wo) (Ak:Addr) (l c:Nat)=>run_neq_slice_nil (P:=prog) w 22 3 (some Ak) l c underlying22;obtain⟨n,Z⟩:=xE F.n;have A:=zh Z;have Aq:b<n:=by rw[Z];exact ω
 rw[<-Z] at hn|-;clear Z;have ν:=zh (bE w);go_enter func155,ntmps155;go_wp2;go_loopw [1,7] (fun v I wr=>∃(c:Nat) (p:LI),b<c/\c<=n/\I=(c:aV)/\Hid (jR F.t0 V.τ wr v p)/\Hid (v=rv\/∀g,v.ownBlock=some g->w.heap.size<=g)/\Hid (StC (GenP F.n (V.G 0)) F.n b r c p)/\Hid (Below w w wr)) (fun _ I _=>n-(intOf I).toNat)
 .exact⟨b+1,r,Nat.lt_succ_self _,Aq,pC,Ag,aG (.inl rfl),σ,ν⟩
 .
  clear ν σ;obtain⟨c,p,Ap,Az,rfl,T,φ,δ,O⟩:=hrel;have ε:=zh (H.on O);have J:Hid (IsP n p):=aG (by rw[A.out];exact π.is _ (δ.grp π ξ));obtain⟨U,W,X⟩:=ε.box3;rw[<-A.out] at U W X;obtain⟨Bk,Bj,rfl⟩:=T.form;rw[J.out.len] at T φ|-;by_cases Ab:c<n
  .have D:c<F.n:=A.out▸Ab;have Y:=ε.repsAt D;rw[<-A.out] at Y;go_wp2;go_loopw [8,30] (fun Al I Ay=>∃(x y:Nat),x<=n/\y<n/\I=(x:aV)/\Al=(y:aV)/\Hid (V.R c y≠none)/\Hid (∀z t,z<x->V.R c z=some t->p y 0<=p z 0)/\Hid (Below wr wr Ay)) (fun _ I _=>n-(intOf I).toNat)
   .have C:=zh (bE wr);exact⟨0,c,aZ5 _,Ab,rfl,rfl,aG (by rw[S.out.rep.self c D];simp),aG (fun z t k=>aB k (aY5 _)),C⟩
   .
    obtain⟨x,y,Be,j,rfl,rfl,η,Q,C⟩:=hrel;have E:=zh (ε.on C);have m:=zh (T.si.below C zr);by_cases i:x<n
    .have Ba:=E.rowAt D (x:=x) (A.out▸i);have K:=E.rep c x D (A.out▸i);generalize V.ru c x=ru at*;cases hrr:V.R c x with
     |none=>
      rw[hrr] at K;have At:ru=.slice none 0 0:=K;subst At;have M:Hid (∀z t,z<x+1->V.R c z=some t->p y 0<=p z 0):=aG fun z t k B=>by
       by_cases e:z=x
       .subst e;rw[hrr] at B;cases B
       .exact Q.out z t om B
      clear K hrr U W X Y;go_wp2_with fail
      go_quiet (fail)
      rename_i nq;have L:=zh (aC C (aY _ nq));go_wp2;exact⟨⟨x+1,y,om,j,pC,rfl,η,M,L⟩,oI⟩
     |some s=>
      rw[hrr] at K;obtain⟨Aw,Av,rfl⟩:=K.row.form;obtain⟨_,κ,e,Bf,Bg,χ⟩:=m.perm J.out i;obtain rfl:=aZ0 e;obtain⟨_,μ,e,Bh,Bi,ψ⟩:=m.perm J.out j;obtain rfl:=aZ0 e;have Ah:Hid (V.R c x≠none):=aG (by rw[hrr];simp);clear K hrr e U W X Y;by_cases Bb:κ<μ
      .have Au:(κ:Int)<(μ:Int):=om;have M:Hid (∀z t,z<x+1->V.R c z=some t->p x 0<=p z 0):=aG fun z t k B=>by
        by_cases e:z=x
        .subst e;exact Int.le_refl _
        .have:=Q.out z t om B;rw[χ.out];rw[ψ.out] at this;omega
       go_wp2_with fail
       go_quiet (fail)
       rename_i nq;have L:=zh (aC C (aY _ nq));go_wp2;exact⟨⟨x+1,x,om,i,pC,rfl,Ah,M,L⟩,oI⟩
      .have Au:¬(κ:Int)<(μ:Int):=om;have M:Hid (∀z t,z<x+1->V.R c z=some t->p y 0<=p z 0):=aG fun z t k B=>by
        by_cases e:z=x
        .subst e;rw[χ.out,ψ.out];omega
        .exact Q.out z t om B
       go_wp2_with fail
       go_quiet (fail)
       rename_i nq;have L:=zh (aC C (aY _ nq));go_wp2;exact⟨⟨x+1,y,om,j,pC,rfl,η,M,L⟩,oI⟩
    .obtain rfl:n=x:=om;have Ad:y<F.n:=A.out▸j;have As:=E.rowAt D Ad;have d:=E.rep c y D Ad;clear U W X Y;obtain⟨Am,An,Ao⟩:=E.box3;have Ar:=E.repsAt D;rw[<-A.out] at Am An Ao Ar;generalize V.ru c y=ru at*;obtain⟨s,f⟩:∃s,V.R c y=some s:=by
      cases e:V.R c y with
      |none=>exact aB e η.out
      |some s=>exact⟨s,rfl⟩
     rw[f] at d;have ρ:=zh d.row;obtain⟨Aw,Av,rfl⟩:=d.row.form;have o:Hid (IsP n s):=aG (A.out▸S.rep.is _ _ _ f);have Ai:Hid (StC (GenP F.n (V.G 0)) F.n b r (c+1) (aL s p)):=aG (L6 S D Ap ξ δ f fun z t B=>Q.out z t (A.out▸YK S.rep B) B);rw[o.out.len] at ρ As;clear d f;go_wp2_with fail;apply(nS _ n _ _ s p ρ.si m o J om).mono;rintro e Ax⟨ι,rfl,θ,Aa⟩;have Ae:=zh (aC (aC O C) Aa);have ζ:=zh (o.then J);have Af:Hid (jR F.t0 V.τ Ax ι (aL s p)):=aG (E.rowNew θ (by rw[ζ.out.len];omega) (by rw[ζ.out.len];omega) (ζ.i64 om));have Aj:Hid (ι=rv\/∀g,ι.ownBlock=some g->w.heap.size<=g):=aG (.inr fun g N=>by have:=(θ.lt N).1;have:=O.size;have:=C.size;omega);clear θ Aa;go_wp2;exact⟨⟨c+1,_,om,om,pC,Af,Aj,Ai,Ae⟩,oI⟩
  .obtain rfl:n=c:=om
   go_wp2;go_ret;exact⟨_,p,rfl,T.out,φ.out,J.out,by have:=δ.out;rwa[<-A.out] at this,O.out⟩
structure LvP where
 pt:Nat
 orb:LI
 reps:LL
instance:Inhabited LvP:=⟨⟨0,[],[]⟩⟩
inductive CanCh (Γ:LI->Prop) (n:Nat):Nat->List LvP->Prop
 |nil:CanCh Γ n 0 []
 |skip {k:Nat} {l:List LvP} {o:LI} {rs:LL}:CanCh Γ n k l->vP Γ n k o rs->o.length<=1->CanCh Γ n (k+1) l
 |put {k:Nat} {l:List LvP} {o:LI} {rs:LL}:CanCh Γ n k l->vP Γ n k o rs->1<o.length->CanCh Γ n (k+1) (l++[⟨k,o,rs⟩])
theorem rG{n:Nat}{Γ:LI->Prop}(hΓ:lQ n Γ):∀{k:Nat} {l l':List LvP},k<=n->CanCh Γ n k l->CanCh Γ n k l'->l=l'
 |0,_,_,_,.nil,.nil=>rfl
 |k+1,_,_,hk,.skip h1 h2 h3,.skip h1' h2' h3'=>rG hΓ om h1 h1'
 |k+1,_,_,hk,.skip h1 h2 h3,.put h1' h2' h3'=>by have:=(tB hΓ om h2 h2').1;rw[this] at h3;omega
 |k+1,_,_,hk,.put h1 h2 h3,.skip h1' h2' h3'=>by have:=(tB hΓ om h2 h2').1;rw[this] at h3;omega
 |k+1,_,_,hk,.put h1 h2 h3,.put h1' h2' h3'=>by obtain⟨rfl,rfl⟩:=tB hΓ om h2 h2';rw[rG hΓ om h1 h1']
theorem nP{n:Nat}{Γ:LI->Prop}:∀{k:Nat} {l:List LvP},CanCh Γ n k l->l.length<=k
 |0,_,.nil=>zr
 |k+1,_,.skip h _ _=>by have:=nP h;omega
 |k+1,_,.put h _ _=>by have:=nP h;rw[aZ1,aZ2];omega
structure wU(R:fH)(Γ:LI->Prop)(n b x:Nat)(orb:LI)(reps:LL):Prop where
 asc:orb.Pairwise (· < ·)
 mem:∀z:Int,z∈orb↔∃y,y<x/\z=(y:Int)/\R b y≠none
 len:reps.length=orb.length
 rep:∀k,k<orb.length->∃r,Γ r/\dN b r/\r b 0=orb k 0/\StC Γ n b r n (reps k [])
 lex:orb<=x
theorem wU.start(R:fH)(Γ:LI->Prop)(n b:Nat):wU R Γ n b 0 [] []:=⟨List.Pairwise.nil,fun z=>⟨fun h=>aB h List.not_mem_nil,fun⟨y,h,_⟩=>aB h (aY5 _)⟩,rfl,fun k hk=>aB hk (aY5 _),zr⟩
theorem wU.skip{R:fH}{Γ:LI->Prop}{n b x:Nat}{orb:LI}{reps:LL}(h:wU R Γ n b x orb reps)(E:R b x=none):wU R Γ n b (x+1) orb reps:=by
 refine⟨h.asc,fun z=>(h.mem z).trans ⟨fun⟨y,D,A⟩=>⟨y,om,A⟩,fun⟨y,D,A,B⟩=>⟨y,?_,A,B⟩⟩,h.len,h.rep,oA h.lex⟩;rcases Nat.lt_or_ge y x with C|C
 .exact C
 .obtain rfl:y=x:=om;exact aB E B
theorem wU.put{R:fH}{Γ:LI->Prop}{n b x:Nat}{orb:LI}{reps:LL}(h:wU R Γ n b x orb reps){r q:LI}(I:R b x=some r)(D:Γ r/\dN b r/\r b 0=(x:Int))(hq:StC Γ n b r n q):wU R Γ n b (x+1) (orb++[(x:Int)]) (reps++[q]):=by
 refine⟨?_,fun z=>?_,by rw[aZ1,aZ1,h.len];rfl,fun k hk=>?_,by have:=h.lex;rw[aZ1,aZ2];omega⟩
 .rw[List.pairwise_append];refine⟨h.asc,by simp,fun a G c H=>?_⟩;rw[List.mem_singleton.1 H];obtain⟨y,J,rfl,_⟩:=(h.mem a).1 G;omega
 .rw[List.mem_append,List.mem_singleton,h.mem z];constructor
  .rintro (⟨y,C,A,B⟩|rfl)
   .exact⟨y,om,A,B⟩
   .exact⟨x,om,rfl,by rw[I];simp⟩
  .rintro⟨y,C,A,B⟩;by_cases e:y=x
   .subst e;exact .inr A
   .exact .inl ⟨y,om,A,B⟩
 .rw[aZ1,aZ2] at hk;by_cases e:k<orb
  .obtain⟨s,C,A,B,F⟩:=h.rep k e;refine⟨s,C,A,?_,?_⟩
   .rw[B];simp[List.getD,aY2 e]
   .rw[show(reps++[q]).getD k []=reps k [] by simp[List.getD,aY2 (show k<reps by rw[h.len];exact e)]];exact F
  .have E:k=orb:=om;refine⟨r,D.1,D.2.1,?_,?_⟩
   .rw[D.2.2,E];simp[List.getD]
   .rw[E,<-h.len];simpa[List.getD] using hq
theorem wU.done{R:fH}{G:jM}{n b:Nat}{orb:LI}{reps:LL}(B:b<n)(h:wU R (GenP n (G 0)) n b n orb reps)(C:iR n 0 R G):vP (GenP n (G 0)) n b orb reps:=by
 refine⟨h.asc,fun z=>?_,h.len,h.rep⟩;rw[h.mem z];constructor
 .rintro⟨y,K,rfl,I⟩;obtain⟨r,D⟩:∃r,R b y=some r:=by
   cases e:R b y with
   |none=>exact aB e I
   |some r=>exact⟨r,rfl⟩
  exact(IG C B).1 ⟨r,D⟩
 .rintro⟨q,E,F,H⟩;have J:=(uW C).is q E;have A:=J.nat B;refine⟨(q b 0).toNat,A.1,by rw[<-H];exact A.2,?_⟩;obtain⟨r,D⟩:=(IG C B (x:=(q b 0).toNat)).2 ⟨q,E,F,A.2⟩;rw[D];simp
def gU(X:Nat->Prop)(w:Wo)(Φ:Wo->Prop):Prop:=∀w2:Wo,(∀g,X g->g<w.heap.size->w2.heap[g]?=w.heap[g]?)->Φ w2
section
variable {X Y:Nat->Prop} {w w':Wo} {Φ Ψ:Wo->Prop}
theorem gU.out(h:gU X w Φ):Φ w:=h w fun _ _ _=>rfl
theorem gU.on{B:Nat}(h:gU X w Φ)(k:KX B X w w'):gU X w' Φ:=fun w2 D=>h w2 fun g A C=>(D g A (aY1 C k.size)).trans (k.box g A C)
theorem gU.more(h:gU X w Φ)(k:∀g,g<w.heap.size->X g->Y g):gU Y w Φ:=fun w2 B=>h w2 fun g C A=>B g (k g A C) A
theorem gU.imp(h:gU X w Φ)(k:∀w2,Φ w2->Ψ w2):gU X w Ψ:=fun w2 A=>k w2 (h w2 A)
theorem gU.and(h:gU X w Φ)(k:gU X w Ψ):gU X w fun w2=>Φ w2/\Ψ w2:=fun w2 A=>⟨h w2 A,k w2 A⟩
end
theorem SI.stay{X:Nat->Prop}{w:Wo}{u:Va}{p:LI}(h:SI w u p)(E:0<p.length->∀g,u.ownBlock=some g->X g):gU X w fun w2=>SI w2 u p:=fun w2 C=>by
 by_cases B:0<p.length
 .exact h.moved fun q hq D=>World.cell?_of_block (C q.block (E B _ hq) D)
 .obtain⟨A,c,rfl,h⟩:=h;exact⟨A,c,rfl,h.len,h.cap,fun k hk=>aB hk om,h.wf⟩
def LvR(w:Wo)(cs:List Va)(l:LvP):Prop:=∃ov rv,cs=[.int .i64 (l.pt:Int),ov,rv]/\SI w ov l.orb/\SS w rv l.reps
theorem LvR.on{w w':Wo}{cs:List Va}{l:LvP}(h:LvR w cs l)(A:Below w w w'):LvR w' cs l:=by obtain⟨ov,rv,e,B,C⟩:=h;exact⟨ov,rv,e,B.below A zr,C.below A zr⟩
def LX(w:Wo)(cs:List (List Va))(ls:List LvP):Prop:=cs.length=ls.length/\∀k,k<ls.length->LvR w (cs k []) (ls k default)
def ChR(w:Wo)(lv:Va)(ls:List LvP):Prop:=∃cs,RG 3 w lv cs/\LX w cs ls
theorem ChR.on{w w':Wo}{lv:Va}{ls:List LvP}(h:ChR w lv ls)(A:Below w w w'):ChR w' lv ls:=by obtain⟨cs,B,C,D⟩:=h;exact⟨cs,B.below A zr,C,fun k hk=>(D k hk).on A⟩
def I5(w:Wo)(us:List Va)(A:LL):Prop:=us.length=A.length/\∀k,k<A.length->SI w (us k (():aV)) (A k [])
theorem fc{B:Nat}{w:Wo}{v:Va}{us:List Va}{C:LL}(h:RO B 22 1 w v (oR us))(A:I5 w us C)(F:C.length<=17592186044416):SS w v C:=by
 rcases h.1.2 with⟨rfl,D⟩|⟨g,E,G,rfl,H,I,hn,_,_,_⟩
 .rw[iF,A.1] at D;obtain rfl:C=[]:=eH D;exact SS.none_ w
 .rw[iF,A.1] at hn;refine⟨some (g:aA),E,by rw[iF,A.1],F,hn,fun k hk=>⟨_,_,rfl,?_,A.2 k hk⟩⟩;have:=World.ownsRow.cells h.1 (g:=g) rfl k (us k (():aV)) (by rw[FW];simp[List.getD,A.1,hk]);exact this
def il(O:aQ)(n:Nat)(gen:LL)(d:Nat):Prop:=d≠0/\(∃x,aZ O gen x/\cG x n=d)/\∀x,aZ O gen x->(∃j,j<n/\x j≠0)->d<=cG x n
theorem W9(w:Wo)(P M:Int)(n q:Nat)(mv gv:Va)(Mq:LI)(gen:LL)(p:LI)(K:SI w mv Mq)(I:SS w gv gen)(F:nE P M Mq n gen p)(J:0<gen.length)(Y:n<=7)(hq:aF P M=(q:Int))(N:q^gen.length<=256):
 Calls prog 15 #[.agg #[P,M,mv,n,gv]] w (fun e w'=>∃d:Nat,e=.returned (.tuple #[d,z0])/\il (aD P M Mq) n gen d/\Below w w w'):=by
 have S:=zh (fun(w':Wo) (G:Below w w w')=>cz w' P M n q mv gv Mq gen p (K.below G zr) (I.below G zr) F J Y hq N);have A:=zh (iC.mk' w P M mv n gv);clear K I F J hq N;go_enter func15,ntmps15;go_upto_region 1 with fail;generalize w.alloc (.cells #[P,M,mv,n,gv] 27)=w0 at*;obtain⟨T,U,V,W,X,_,_,_,_,_⟩:=A.blk.five;go_wp2_with fail;apply(S.out w0 A.bel).mono;rintro e w1⟨c,Z,best,rfl,C,B,O,E,L,H⟩;have b:=zh C;have a:=zh B;have R:Hid (il (aD P M Mq) n gen (cG (fun j=>best j 0) n)):=aG ⟨E,⟨_,O,rfl⟩,L⟩;have Q:=zh (aC A.bel H);have D:=zh (mT w1 Z best C om);rw[B] at D;generalize cG (fun j=>best j 0) n=d at*;clear C B O E L H T U V W X;go_wp2_with fail;apply D.mono;rintro e w2⟨rfl,rfl⟩;go_wp2;go_ret2;exact⟨d,rfl,R.out,Q.out⟩
def ON:LL:=[0,1].flatMap fun a=>[0,1].flatMap fun b=>[0,1].flatMap fun c=>[0,1].map fun d=>[a,b,c,d]
theorem WQ:∀c∈ON,cG (fun j=>(kZ (aD 2 1 []) c mN 7).getD j 0) 7=0\/3<=cG (fun j=>(kZ (aD 2 1 []) c mN 7).getD j 0) 7:=by decide+kernel
theorem MP:∃c∈ON,cG (fun j=>(kZ (aD 2 1 []) c mN 7).getD j 0) 7=3:=by decide+kernel
theorem P5:∀c∈ON,c.length=4:=by decide
theorem iy{x:Int}(A:0<=x)(B:x<2):x=0\/x=1:=om
theorem P6{a b c d:Int}(A:a=0\/a=1)(B:b=0\/b=1)(C:c=0\/c=1)(D:d=0\/d=1):[a,b,c,d]∈ON:=by rcases A with rfl|rfl<;>rcases B with rfl|rfl<;>rcases C with rfl|rfl<;>rcases D with rfl|rfl<;>decide
theorem EB{x y:Nat->Int}{n:Nat}(h:∀j,j<n->x j=y j):cG x n=cG y n:=vU fun j A=>by rw[h j A]
theorem FH:fE 2 1 [] (7:Nat) mN=0:=by
 have hO:=dR xV;have hR:Rows (aF 2 1) 7 ii:=(cI hO (n:=7) (rows:=sS (wO 2 3) 3) (by have h:=zW (show 0<aF 2 1 by rw[qL];decide) (show Rows (aF 2 1) 3 (wO 2 3) by rw[show aF 2 1=((2:Nat):Int) from qL];exact F3 om) 3;rwa[yS,show fR 2 3=7 by decide] at h)).1.rows;have A:Cn (aD 2 1 []) (aF 2 1) 7 mN:=Cn.null hO hR;unfold fE;rw[iN (by rw[nQ xV];simp),iP om];exact A.spaceE xV om
theorem WO{d:Nat}(h:il (aD 2 1 []) 7 mN d):d=3:=by
 have E:=nE.mk' FH;have hO:=E.O;have A:=E.rr;obtain⟨U,⟨x,F,Q⟩,M⟩:=h;obtain⟨D,H,R⟩:=MP;have L:=P5 D H;have T:d<=3:=by
  rw[<-R];refine M _ (MC hO A.rows (by rw[L,qK])) (aY0 fun N=>?_);have:cG (fun j=>(kZ (aD 2 1 []) D mN 7).getD j 0) 7=0:=by rw[EB (y:=fun _=>0) fun j K=>aY0 fun h=>N ⟨j,K,h⟩];exact uX fun _=>rfl
  omega
 obtain⟨p,P⟩:=xE (oS (aD 2 1 []) mN 7);rw[<-P] at A;have B:∀j,x j=0\/x j=1:=fun j=>by
  have G:=(A.mem hO).1 F j;have C:0<=x j/\x j<aF 2 1:=by rw[G];exact dS hO _ _
  rw[qL] at C;exact iy C.1 C.2
 have I:=P6 (B (pvt p 0)) (B (pvt p 1)) (B (pvt p 2)) (B (pvt p 3));have J:∀j,x j=(kZ (aD 2 1 []) [x (pvt p 0),x (pvt p 1),x (pvt p 2),x (pvt p 3)] mN 7).getD j 0:=fun j=>by rw[vW hO A.rows (by rw[qK];rfl)];rw[(A.mem hO).1 F j];refine aO fun i hi=>?_;rw[qK] at hi;rcases(by omega:i=0\/i=1\/i=2\/i=3) with rfl|rfl|rfl|rfl<;>rfl
 have S:=WQ _ I;rw[<-EB (x:=x) fun j _=>J j,Q] at S;omega
theorem P4(w:Wo):Calls prog 4 #[] w (fun e w'=>e=.returned (.bool true)/\Below w w w'):=by
 have F:=zh (fun(w':Wo)=>S3 w');have T:=zh (fun(w':Wo) a b c d f h=>lh w' a b c d f h);have q:Hid (∀(w':Wo) (u g:Va),SI w' u []->SS w' g mN->Calls prog 15 #[.agg #[.int .i64 2,.int .i64 1,u,.int .i64 7,g]] w' (fun e w2=>e=.returned (.tuple #[.int .i64 3,z0])/\Below w' w' w2)):=aG fun w' u g y x=>by refine(W9 w' 2 1 7 2 u g [] mN _ y x (nE.mk' FH) (by rw[qK];decide) dC qL (by rw[qK];decide)).mono ?_;rintro e w2⟨d,rfl,v,t⟩;obtain rfl:=WO v;exact⟨rfl,t⟩
 have j:scS=⟨#[104,97,109,109,105,110,103,40,103,102,40,50,41,44,32,51,41]⟩:=by rfl
 rw[j] at F;clear j;go_enter func4,ntmps4;go_wp2_with fail;apply(F.out w).mono;rintro e w1⟨a,b,c,d,f,rfl,M,Z⟩;obtain⟨I,O,X,_⟩:=M w1 fun _ _ _=>rfl;obtain⟨rfl,rfl,rfl,rfl,rfl⟩:a=.int .i64 3/\b=.string fU/\c=.int .i64 0/\d=.slice none 0 0/\f=.slice I 2 O:=by simpa[XBk] using X
 have H:=zh M;have Q:=zh Z;obtain⟨tx,k⟩:=xE fU;rw[<-k] at H|-;clear M Z F k X;go_upto_region 2 with fail;obtain⟨w2,ε,A,B,J,K⟩:=aR w1 50 [.int .i64 3,.string tx,.int .i64 0,.slice none 0 0,.slice I 2 O];rw[A,B];have r:Hid (EK w2 [.int .i64 3,.string tx,.int .i64 0,.slice none 0 0,.slice I 2 O]):=aG (H.out w2 fun p _ C=>K.cell C);have δ:=zh J;have R:=zh (aC Q K);obtain⟨x0,x1,x2,x3,x4,_,_,_,_,_⟩:=J.five;clear A B J K H Q;go_wp2_with fail;apply(T.out w2 _ _ _ _ _ r).mono;rintro e z⟨u,g,rfl,E,i⟩;obtain⟨V,l,s,_⟩:=E.out.1;obtain⟨P,Y,W,_⟩:=E.out.2;rw[qK] at W;subst s W;have G:=zh E.out;have S:=zh (aC R i);clear E i x0 x1 x2 x3 x4 R T;go_upto_region 3 with fail;obtain⟨N,g4,A,B,C,D⟩:=aR z 27 [.int .i64 2,.int .i64 1,.slice V 0 l,.int .i64 7,.slice P 4 Y];rw[A,B];have U:Hid (SI N (.slice V 0 l) []/\SS N (.slice P 4 Y) mN):=aG ⟨G.1.below D zr,G.2.below D zr⟩;have o:=zh C;have m:=zh (aC S D);obtain⟨x0,x1,x2,x3,x4,_,_,_,_,_⟩:=C.five;clear A B C D S G;go_wp2_with fail;apply(q.out N _ _ U.1 U.2).mono;rintro e ζ⟨rfl,L⟩;obtain⟨η,θ,ι,κ,μ,_,_,_,_,_⟩:=(o.belowS L).five;have n:=zh (aC m L);clear L x0 x1 x2 x3 x4;go_wp2;go_ret;exact⟨rfl,n.out⟩
