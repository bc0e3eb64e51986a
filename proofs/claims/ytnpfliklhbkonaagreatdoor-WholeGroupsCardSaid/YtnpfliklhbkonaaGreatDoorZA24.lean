/- Parts. -/
import Derived.Test.YtnpfliklhbkonaaGreatDoorZA7
import Derived.Test.YtnpfliklhbkonaaGreatDoorZA20
set_option maxRecDepth 99999
set_option maxHeartbeats 0
namespace Go.Proofs.YtnpfliklhbkonaaGreatDoor
open Go.Proofs.Tryz
open Go.RowKit
theorem BG(w:Wo)(n:Nat):∃w' g,w.alloc (.cells (madeCells #[z0] n) 3)=w'/\w.heap.size=g/\RI w' g (List.replicate n 0)/\Below w w w':=
 ⟨_,_,rfl,rfl,RI.made w n,aH w _⟩
def mpE(O:aQ)(sc x:LI):LI:=aT sc fun i=>O.mul (sc i 0) (x i 0)
def gP(tl x:LI):LI:=aT tl fun i=>x (tl i 0).toNat 0
theorem pD(O:aQ)(sc x:LI):(mpE O sc x).length=sc.length:=aW _ _
theorem lL(tl x:LI):(gP tl x).length=tl.length:=aW _ _
theorem GZ{a b:LI}(C:a.length=b.length)(h:∀i,i<a.length->a i 0=b i 0):a=b:=by refine eK C fun i A B=>?_;have:=h i A;simpa[List.getD,A,B] using this
theorem E8(w:Wo)(i n:Nat)(hi:i<n)(hn:n<=1000):Calls prog 270 #[i,n] w (fun e w'=>∃u,e=.returned u/\Below w w w'):=by have I:=fun(w:Wo)=>dX n om w;go_enter func270,ntmps270;go_upto_region 2 with fail;obtain⟨w1,g,C,F,D,E⟩:=BG w n;rw[C,F];have B:=zh D;have A:=zh E;have G:=B.cell i (by rw[eG];exact hi);have H:=B.frozen i;clear C D E;go_wp2;go_ret;exact⟨_,rfl,A.grown (aU w1 g i (.int .i64 1)) A.size (fun b e=>oA (aZ0 e))⟩
theorem JQ(w:Wo)(sb a:Nat)(P M:Int)(Mq:LI)(tv sv ε:Va)(tl sc x:LI)(f:GF w a P M Mq)(u:w.cell? sb=some (.pointer a))(v:SI w tv tl)(p:SI w sv sc)(y:SI w ε x)(q:tl.length=sc.length)(δ:sc.length<=x.length)(hk:sc.length<=1000):
 Calls prog 354 #[.pointer sb,.agg #[tv,sv],ε] w (sN w (mpE (aD P M Mq) sc x)):=by
 have Aa:=fun(w:Wo)=>dX sc om w;have η:=zh f;have W:=zh p;have π:=zh y;have μ:=zh u;obtain⟨φ,tc,rfl,_⟩:=v;obtain⟨τ,Ad,rfl,_⟩:=p;obtain⟨Af,Al,rfl,_⟩:=y;rw[q];obtain⟨k,S⟩:=xE sc.length;have E:=zh S;have d:=zh δ;rw[<-S] at Aa hk W|-;clear f u S q δ;go_enter func354,ntmps354;go_upto_region 1 with fail;obtain⟨w1,Ak,F,G,m,n⟩:=aR w 105 [.slice φ k tc,.slice τ k Ad];rw[F,G];have U:=zh n;have c:=zh m;clear F G m n;obtain⟨L,N,_,_⟩:=c.two;go_upto_region 2 with fail;obtain⟨w2,g,F,G,r,O⟩:=BG w1 k;rw[F,G];have V:=zh (aC U O);have Y:=zh r;have ρ:=zh (c.belowS O);have Ag:w<=g:=by have:=U.size;omega
 clear F G r O L N;obtain⟨L,N,_,_⟩:=ρ.two;go_wp2_with fail;clear L N;go_loopw [17] (fun T wr=>∃(j:Nat) (ys:LI),j<=k/\T=(j:aV)/\ys=k/\Hid (RI wr g ys)/\Hid (∀t,t<j->ys t 0=bM P M Mq (sc t 0) (x t 0))/\Hid (Below w w wr)) (fun T _=>k-(intOf T).toNat)
 .exact⟨0,_,aZ5 _,rfl,eG,Y,aG (fun t h=>aB h (aY5 _)),V⟩
 .
  clear Y V;obtain⟨j,ys,Ah,rfl,C,X,Z,A⟩:=hrel;by_cases R:j<k
  .obtain⟨Aj,s,rfl,ω,_,ν⟩:=(W.below A zr).elt (k:=j) (E.out▸R);obtain⟨Am,z,rfl,Q,_,σ⟩:=(π.below A zr).elt (k:=j) (oB d.out E.out);have J:wr.cell? sb=some (.pointer a):=aE A.out μ.out;have Ai:j<x:=by have:=d.out;have:=E.out;omega
   have θ:=zh ((η.on A).on (aI wr));go_upto_region 5 with fail;refine db 14 J Q fun l=>?_;refine dq 0 ?_;refine dq 1 ?_;refine dq 2 ?_;refine dq 3 ?_;refine dq 4 ?_;refine dq 5 ?_;refine dq 6 ?_;refine dq 7 ?_;refine dq 8 ?_;refine dq 9 ?_;refine dq 10 ?_;try simp only[tz]
   refine dn 11 fun K hK=>?_;go_simp;apply(lE wr.drew a P M s z Mq θ).mono;rintro e Ae⟨rfl,o⟩;have D:=zh (aC (aI wr) o);have b4:=aE D.out J;have x4:=aE D.out Q;have I:=zh (X.belowS D);have χ:=I.cell j (by rw[C];exact R);have ψ:=I.frozen j;clear o;refine hK.out _ _ (fun _=>⟨b4,x4⟩) (fun H=>?_);replace l:=H dC;clear H;try simp only[tz]
   refine dq 12 ?_;try simp only[tz]
   refine dn 13 fun K hK=>?_;go_simp;refine hK.out _ _ (fun h=>aB rfl h) fun _=>?_;refine dw ?_;try simp only[tz]
   clear l;have κ:=zh (I.set j (bM P M Mq s z));have Ac:(ys.set j (bM P M Mq s z)).length=k:=by rw[aZ9];exact C
   have ξ:Hid (∀t,t<j+1->(ys.set j (bM P M Mq s z)).getD t 0=bM P M Mq (sc t 0) (x t 0)):=aG fun t v=>by
    by_cases e:j=t
    .subst e;rw[ν.out,σ.out];simp[List.getD,C,R]
    .rw[show(ys.set j (bM P M Mq s z)).getD t 0=ys t 0 by simp[List.getD,List.getElem?_set_ne e]];exact Z.out t om
   have ζ:=zh ((aC A D).grown (aU Ae g j (.int .i64 (bM P M Mq s z))) (aC A D).size (fun b e=>oA (aZ0 e)));clear J b4 x4 χ ψ ω Q;go_wp2;exact⟨⟨j+1,_,om,pC,Ac,κ,ξ,ζ⟩,oI⟩
  .obtain rfl:k=j:=om;have Ab:ys=mpE (aD P M Mq) sc x:=GZ (by rw[C,pD];exact E.out) fun i hi=>by rw[C] at hi;rw[Z.out i hi,mpE,aK (E.out▸hi)];rfl
   have ι:Hid (OI w wr (.slice g k k) (mpE (aD P M Mq) sc x)):=aG (by have:=X.oi (B:=w.heap.size) om (by rw[C];omega);rw[C,Ab] at this;exact this);go_wp2;go_ret;exact⟨_,rfl,ι.out,A.out⟩
theorem RF(w:Wo)(sb:Nat)(tv sv d:Va)(tl sc x:LI)(O:SI w tv tl)(u:SI w sv sc)(a:SI w d x)(F:∀i,i<tl.length->0<=tl i 0/\tl i 0<x.length)(hk:tl.length<=1000):
 Calls prog 355 #[.pointer sb,.agg #[tv,sv],d] w (sN w (gP tl x)):=by
 have v:=fun(w:Wo)=>dX tl om w;have U:=zh O;have o:=zh a;have T:=zh F;obtain⟨s,tc,rfl,_⟩:=O;obtain⟨r,ζ,rfl,_⟩:=u;obtain⟨θ,τ,rfl,_⟩:=a;obtain⟨k,N⟩:=xE tl.length;have J:=zh N;rw[<-N] at v hk U T|-;clear N F;generalize sc=η at*;go_enter func355,ntmps355;go_upto_region 1 with fail;obtain⟨w1,σ,D,E,Y,Z⟩:=aR w 105 [.slice s k tc,.slice r η ζ];rw[D,E];have Q:=zh Z;have W:=zh Y;clear D E Y Z;obtain⟨K,L,_,_⟩:=W.two;go_upto_region 2 with fail;obtain⟨w2,g,D,E,F,M⟩:=BG w1 k;rw[D,E];have R:=zh (aC Q M);have S:=zh F;have p:=zh (W.belowS M);have ξ:w<=g:=by have:=Q.size;omega
 clear D E F M K L;obtain⟨K,L,_,_⟩:=p.two;go_wp2_with fail;clear K L;go_loopw [17] (fun P wr=>∃(j:Nat) (ys:LI),j<=k/\P=(j:aV)/\ys=k/\Hid (RI wr g ys)/\Hid (∀t,t<j->ys t 0=x (tl t 0).toNat 0)/\Hid (Below w w wr)) (fun P _=>k-(intOf P).toNat)
 .exact⟨0,_,aZ5 _,rfl,eG,S,aG (fun t h=>aB h (aY5 _)),R⟩
 .
  clear S R;obtain⟨j,ys,π,rfl,A,G,V,C⟩:=hrel;by_cases H:j<k
  .obtain⟨td,y,rfl,μ,_,X⟩:=(U.below C zr).elt (k:=j) (J.out▸H);have c:=T.out j H;rw[X.out] at c;obtain⟨I,rfl⟩:∃I:Nat,y=(I:Int):=⟨y.toNat,om⟩
   obtain⟨φ,z,rfl,ν,_,q⟩:=(o.below C zr).elt (k:=I) om;have ρ:I<x:=om;have ι:=G.cell j (by rw[A];exact H);have κ:=G.frozen j;have m:=zh (G.set j z);have ε:(ys.set j z).length=k:=by rw[aZ9];exact A
   have n:Hid (∀t,t<j+1->(ys.set j z).getD t 0=x (tl t 0).toNat 0):=aG fun t O=>by
    by_cases e:j=t
    .subst e;rw[X.out,aZ8,q.out];simp[List.getD,A,H]
    .rw[show(ys.set j z).getD t 0=ys t 0 by simp[List.getD,List.getElem?_set_ne e]];exact V.out t om
   have f:=zh (C.grown (aU wr g j (z:aV)) C.size (fun b e=>oA (aZ0 e)));clear c;go_wp2;exact⟨⟨j+1,_,om,pC,ε,m,n,f⟩,oI⟩
  .obtain rfl:k=j:=om;have δ:ys=gP tl x:=GZ (by rw[A,lL];exact J.out) fun i hi=>by rw[A] at hi;rw[V.out i hi,gP,aK (J.out▸hi)]
   have l:Hid (OI w wr (.slice g k k) (gP tl x)):=aG (by have:=G.oi (B:=w.heap.size) om (by rw[A];omega);rw[A,δ] at this;exact this);go_wp2;go_ret;exact⟨_,rfl,l.out,C.out⟩
def kX(w:Wo)(sb a:Nat)(P M:Int)(mv:Va)(n:Nat)(gv:Va)(seen:Nat):Prop:=
 Blk w sb 229 [.pointer a,(P:aV),(M:aV),mv,(n:aV),gv,(P:aV),(M:aV),mv,(n:aV),gv,(seen:aV)]
theorem C8(f:LI->LI){l:LL}{k:Nat}(hk:k<l):(l.take (k+1)).map f=(l.take k).map f++[f (l k [])]:=by rw[List.take_add_one,aZ3 hk,List.map_append];simp[List.getD,hk]
theorem ct{P M:Int}{Mq:LI}(hO:(aD P M Mq).Fld (aF P M))(sc x:LI)(k:Nat):I64 ((mpE (aD P M Mq) sc x).getD k 0):=by
 by_cases hk:k<sc
 .rw[mpE,aK hk];have A:=hO.lt.mul (sc k 0) (x k 0);have B:=aM P M;exact I64.of_small om om
 .rw[aZ4,aY4 (by rw[pD];omega)];exact I64.zero
theorem YT{tl x:LI}(h:∀j,I64 (x j 0))(k:Nat):I64 ((gP tl x).getD k 0):=by
 by_cases hk:k<tl
 .rw[gP,aK hk];exact h _
 .rw[aZ4,aY4 (by rw[lL];omega)];exact I64.zero
structure nC(q:Int)(n:Nat)(tl sc:LI):Prop where
 len:tl.length=sc.length
 le:sc<=n
 rng:∀i,i<tl.length->0<=tl i 0/\tl i 0<n
 inj:∀i j,i<tl.length->j<tl.length->tl i 0=tl j 0->i=j
 nz:∀i,i<sc.length->1<=sc i 0/\sc i 0<q
theorem RH(w:Wo)(sb a n seen:Nat)(P M:Int)(Mq:LI)(mv gv tv sv:Va)(gen:LL)(tl sc:LI)(hB:kX w sb a P M mv n gv seen)(An:GF w a P M Mq)(hO:(aD P M Mq).Fld (aF P M))(G:SS w gv gen)(hR:Rows (aF P M) n gen)(τ:SI w tv tl)(π:SI w sv sc)(E:nC (aF P M) n tl sc)(hn:n<=64)(Ba:gen.length<=64):
 Calls prog 267 #[.pointer sb,.agg #[tv,sv]] w (fun e w'=>∃lv rv,e=.returned (.tuple #[lv,rv])/\SS w' lv (gen.map (mpE (aD P M Mq) sc))/\SS w' rv (gen.map (gP tl))/\Below w w w'):=by
 have q:=zh hB;have s:=zh G;have Ae:=zh hR;have At:=zh hO;have Bc:=zh E;have Ad:=zh (fun(w':Wo) (F:Below w w w') (c:Va) (x:LI) (ψ:SI w' c x) (Ap:n<=x)=>JQ w' sb a P M Mq tv sv c tl sc x (An.on F) ((hB.belowS F).cell 0) (τ.below F zr) (π.below F zr) ψ E.len (aZ6 E.le Ap) (oA E.le));have Ag:=zh (fun(w':Wo) (F:Below w w w') (c:Va) (x:LI) (ψ:SI w' c x) (Ap:n<=x)=>RF w' sb tv sv c tl sc x (τ.below F zr) (π.below F zr) ψ (fun i hi=>oA (E.rng i hi)) (oB E.le E.len));obtain⟨μ,tc,rfl,_⟩:=τ;obtain⟨κ,ω,rfl,_⟩:=π;obtain⟨Ab,Am,rfl,_⟩:=G;obtain⟨r,σ⟩:=xE gen.length;have K:=zh σ;rw[<-σ] at q s Ba;have Af:Hid (sc.length<=64/\tl.length<=64):=aG ⟨aZ6 E.le hn,by rw[E.len];exact aZ6 E.le hn⟩;clear hB An hO hR E σ;obtain⟨b,Ar⟩:=xE tl.length;obtain⟨Z,Aq⟩:=xE sc.length;rw[<-Ar,<-Aq] at Ad Ag|-;clear Ar Aq;go_enter func267,ntmps267;go_upto_region 1 with fail;obtain⟨w1,t3,Aj,Al,F,Ao⟩:=aR w 105 [.slice μ b tc,.slice κ Z ω];rw[Aj,Al];have m:=zh Ao;have Ai:=zh F;clear Aj Al F Ao;have b5:w1.cell? (sb 5 none)=some (.slice Ab r Am):=(q.belowS m).cell 5;have V:Hid (OS w (fun _=>False) w1 (():aV) ((gen.take 0).map (mpE (aD P M Mq) sc))):=aG (OS.nil _ _ _);go_wp2_with fail;clear b5;go_loopw [4,16] (fun v T wr=>∃j:Nat,j<=r/\T=(j:aV)/\Hid (OS w (fun _=>False) wr v ((gen.take j).map (mpE (aD P M Mq) sc)))/\Hid (Below w w wr)/\Hid (Blk wr t3 105 [.slice μ b tc,.slice κ Z ω])) (fun _ T _=>r-(intOf T).toNat)
 .exact⟨0,aZ5 _,rfl,V,m,Ai⟩
 .
  clear V m Ai;obtain⟨j,Bb,rfl,J,D,O⟩:=hrel;by_cases R:j<r
  .obtain⟨Az,As,Ay,x,rfl,ρ,f,X⟩:=(s.below D zr).eltA (k:=j) (K.out▸R);have ι:Hid (x=n):=aG (by rw[<-X.out];exact(Ae j (K.out▸R)).1);obtain⟨ν,ξ,_,_⟩:=O.two;go_wp2_with fail;apply(Ad wr D _ x f.si (ι.out▸zr)).mono;rintro e U⟨Aa,rfl,I,H⟩;obtain⟨A,B,C,rfl⟩:∃(A:OA) (B C:Nat),Aa=.slice A B C:=(by obtain⟨x,y,e⟩:=I.form';exact⟨_,_,_,e⟩)
   have o:=zh (aC D H);have η:=zh (O.belowS H);have N:=zh ((J.below H).alloc (.cells #[.slice A B C] 22));have u:=zh (Blk.new U 22 [.slice A B C]);have L:=zh (aC o (aH U (.cells #[.slice A B C] 22)));have Y:=zh (η.alloc (.cells #[.slice A B C] 22));have ε:=zh ((I.alloc (.cells #[.slice A B C] 22)).si (by rw[pD];have:=Af.out;omega) (ct At sc x));have z:Hid (∀g,(Value.slice A B C).ownBlock=some g->u4.ownBlock≠some g):=aG fun g G e=>by have:=(I.lt G).1;have:=(J.lt e).2;omega
   have ζ:Hid ((gen.take (j+1)).map (mpE (aD P M Mq) sc)=(gen.take j).map (mpE (aD P M Mq) sc)++[mpE (aD P M Mq) sc x]):=aG (by rw[C8 _ (K.out▸R),X.out]);have t:Hid (((gen.take j).map (mpE (aD P M Mq) sc)).length+1<=4398046511104):=aG (by rw[aY7,aY3];omega);clear I H ν ξ ρ;go_wp2_with (
    at_builtin;refine iB rfl _ _ rfl w (fun _=>False) u4 _ rfl N.out U 1 (.slice A B C) (mpE (aD P M Mq) sc x) rfl (u.cell 0) ε.out (fun _ g G=>⟨z.out g G,fun h=>h⟩) t.out L.size ?_;intro v9 w9 S Q φ;rw[<-ζ.out] at S;have δ:=zh S;have p:=zh (N.bgrown L L.size Q);have θ:=zh (Y.grown Q fun e=>N.ne_blk Y dC e.symm);clear S Q φ)
   exact⟨⟨j+1,om,pC,δ,p,θ⟩,oI⟩
  .obtain rfl:r=j:=om;have Ac:Hid (SS wr u4 (gen.map (mpE (aD P M Mq) sc))):=aG (by have:=J.ss (by rw[aY7,aY3];omega);rw[K.out,List.take_length] at this;exact this);have V:Hid (OS wr (fun _=>False) wr (():aV) ((gen.take 0).map (gP tl))):=aG (OS.nil _ _ _);have l:=zh (bE wr);have Ax:wr.cell? (sb 10 none)=some (.slice Ab r Am):=(q.belowS D).cell 10;have d:=zh D.out;have Ah:=zh O.out;obtain⟨W,χ⟩:=xE wr;rw[<-χ] at Ac V l d Ah;have Av:=zh χ;clear χ;go_wp2_with fail;clear Ax;rw[<-Av.out];clear J D O;go_loopw [5,34] (fun v T wr=>∃j:Nat,j<=r/\T=(j:aV)/\Hid (OS W (fun _=>False) wr v ((gen.take j).map (gP tl)))/\Hid (Below W W wr)/\Hid (Blk wr t3 105 [.slice μ b tc,.slice κ Z ω])) (fun _ T _=>r-(intOf T).toNat)
   .exact⟨0,aZ5 _,rfl,V,l,Ah⟩
   .
    clear V l;obtain⟨j,Bb,rfl,J,D,O⟩:=hrel;by_cases R:j<r
    .obtain⟨Az,As,Ay,x,rfl,ρ,f,X⟩:=(s.below (aC d D) zr).eltA (k:=j) (K.out▸R);have ι:Hid (x=n):=aG (by rw[<-X.out];exact(Ae j (K.out▸R)).1);have Aw:=zh f.wf;obtain⟨ν,ξ,_,_⟩:=O.two;go_wp2_with fail;apply(Ag wr (aC d D) _ x f.si (ι.out▸zr)).mono;rintro e U⟨Aa,rfl,I,H⟩;obtain⟨A,B,C,rfl⟩:∃(A:OA) (B C:Nat),Aa=.slice A B C:=(by obtain⟨x,y,e⟩:=I.form';exact⟨_,_,_,e⟩)
     have o:=zh (aC D H);have η:=zh (O.belowS H);have N:=zh ((J.below H).alloc (.cells #[.slice A B C] 22));have u:=zh (Blk.new U 22 [.slice A B C]);have L:=zh (aC o (aH U (.cells #[.slice A B C] 22)));have Y:=zh (η.alloc (.cells #[.slice A B C] 22));have ε:=zh ((I.alloc (.cells #[.slice A B C] 22)).si (by rw[lL];have:=Af.out;omega) (YT Aw));have z:Hid (∀g,(Value.slice A B C).ownBlock=some g->u5.ownBlock≠some g):=aG fun g G e=>by have:=(I.lt G).1;have:=(J.lt e).2;omega
     have ζ:Hid ((gen.take (j+1)).map (gP tl)=(gen.take j).map (gP tl)++[gP tl x]):=aG (by rw[C8 _ (K.out▸R),X.out]);have t:Hid (((gen.take j).map (gP tl)).length+1<=4398046511104):=aG (by rw[aY7,aY3];omega);clear I H ν ξ ρ;go_wp2_with (
      at_builtin;refine iB rfl _ _ rfl W (fun _=>False) u5 _ rfl N.out U 1 (.slice A B C) (gP tl x) rfl (u.cell 0) ε.out (fun _ g G=>⟨z.out g G,fun h=>h⟩) t.out L.size ?_;intro v9 w9 S Q φ;rw[<-ζ.out] at S;have δ:=zh S;have p:=zh (N.bgrown L L.size Q);have θ:=zh (Y.grown Q fun e=>N.ne_blk Y dC e.symm);clear S Q φ)
     exact⟨⟨j+1,om,pC,δ,p,θ⟩,oI⟩
    .obtain rfl:r=j:=om;have Au:Hid (SS wr u5 (gen.map (gP tl))):=aG (by have:=J.ss (by rw[aY7,aY3];omega);rw[K.out,List.take_length] at this;exact this);go_wp2;go_ret2;exact⟨_,_,rfl,Ac.below D zr,Au.out,aC d D⟩
