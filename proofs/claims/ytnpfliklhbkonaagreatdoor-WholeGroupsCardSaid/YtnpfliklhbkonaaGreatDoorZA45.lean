/- Parts. -/
import Derived.Test.YtnpfliklhbkonaaGreatDoorZA44
set_option maxRecDepth 99999
set_option maxHeartbeats 0
set_option linter.unusedVariables false
namespace Go.Proofs.YtnpfliklhbkonaaGreatDoor
open Go.Proofs.Tryz
section
open Go.RowKit
def PW(q:Int)(l:LI):Prop:=∀i,i<l.length->1<=l i 0/\l i 0<q
theorem JO(w:Wo)(a:Nat)(P M:Int)(Mq:LI)(v:Va)(l:LI)(U:GF w a P M Mq)(L:SI w v l):Calls prog 43 #[.pointer a,v] w (fun e w'=>∃S:Int,e=.returned (S:aV)/\(S=0↔PW (aF P M) l)/\Below w w w'):=by
 have W:=zh U;have F:=zh L;have d:=L.len';obtain⟨A,c,rfl,_⟩:=L;obtain⟨m,B⟩:=xE l.length;have f:=zh B;rw[<-B] at F d|-;clear B U;go_enter func43,ntmps43;go_upto_region 1 with fail;obtain⟨w1,t2,R,D,V,H⟩:=aR w 57 [.pointer a];rw[R,D];have C:=zh H;have Y:=zh V;have X:=zh (W.on H);clear R D V H;go_wp2_with fail;apply(VT w1 _ l t2 (fun x=>!isB P M x) (F.below C zr) (fun k hk=>Q7 w1 a P M _ Mq t2 X (Y.cell 0))).mono;rintro e w2⟨rfl,rfl⟩;obtain⟨G,I⟩:=xE (l.any (fun x=>!isB P M x));have O:=zh I;rw[<-I];clear I;cases G
 .go_wp2_with fail;apply(gB w1 _ l 0 (F.below C zr)).mono;rintro e w2⟨rfl,rfl⟩;obtain⟨cb,J⟩:=xE (l.any (fun x=>x==0));have Q:=zh J;rw[<-J];clear J;cases cb
  .have Z : Hid (PW (aF P M) l) := aG fun i hi => by
    have B:l i 0∈l:=by rw[aZ4,aZ3 hi];exact aY6 _
    have T:=List.any_eq_false.1 O.symm _ B;have b:=List.any_eq_false.1 Q.symm _ B;rw[eD] at b;generalize l i 0=y at*;unfold isB at T;simp at T;omega
   go_wp2;go_ret;exact⟨_,rfl,⟨fun _=>Z.out,fun _=>rfl⟩,C.out⟩
  .have E : Hid (¬ PW (aF P M) l) := aG fun h => by
    obtain⟨x,N,e⟩:=List.any_eq_true.1 Q.symm;rw[eD] at e;obtain⟨j,K,D⟩:=rO N;have:=h j K;omega
   go_wp2;go_ret;exact⟨_,rfl,⟨fun h=>aB h dC,fun h=>aB h E⟩,C.out⟩
 .have E : Hid (¬ PW (aF P M) l) := aG fun h => by
   obtain⟨x,N,e⟩:=List.any_eq_true.1 O.symm;obtain⟨j,K,D⟩:=rO N;have:=h j K;unfold isB at e;simp at e;omega
  go_wp2;go_ret;exact⟨_,rfl,⟨fun h=>aB h dC,fun h=>aB h E⟩,C.out⟩
structure lN(q M:Int)(n:Nat)(perm scale:LI)(fr:Int):Prop where
 pl:perm=n
 sl:scale=n
 inj:PX n perm
 fr:0<=fr/\fr<M
 fac:PW q scale
theorem Blk.monB{w:Wo}{g:Nat}{a b c:Va}(h:Blk w g 29 [a,b,c]):w.cell? g=some a/\w.cell? (g 1 none)=some b/\w.cell? (g 2 none)=some c:=⟨h.cell 0,h.cell 1,h.cell 2⟩
theorem FQ(w:Wo)(cs ds:List Va)(s t:TypeId):∃w1 t3 t5,(w.alloc (.cells cs.toArray s)).alloc (.cells ds.toArray t)=w1/\w.heap.size=t3/\w.heap.size+1=t5/\Blk w1 t3 s cs/\Blk w1 t5 t ds/\Below w w w1:=by have B:=Blk.new w s cs;have A:=Blk.new (w.alloc (.cells cs.toArray s)) t ds;rw[World.size_alloc] at A;exact⟨_,_,_,rfl,rfl,rfl,B.alloc _,A,aC (aH w _) (aH _ _)⟩
theorem E7(w:Wo)(P M fr:Int)(n:Nat)(mv pv sv:Va)(Mq perm B:LI)(Z:SI w mv Mq)(θ:cZ P M Mq)(Aj:1<=n)(Ak:n<=64)(μ:SI w pv perm)(ξ:SI w sv B):
 Calls prog 17 #[.agg #[P,M,mv],n,.agg #[pv,sv,fr]] w (fun e w'=>∃(g:Va) (C:Int),e=.returned (.tuple #[g,C])/\(C=0↔lN (aF P M) M n perm B fr)/\(C=0->∃a,g=.pointer (some ⟨a,0,none⟩)/\GF w' a P M Mq)/\Below w w w'):=by
 have Ab:=zh (fun(w':Wo) (Af:Below w w w')=>oO w' P M mv Mq (Z.below Af zr) θ);have r:=zh μ;have t:=zh ξ;obtain⟨Ac,Ag,rfl,_⟩:=μ;obtain⟨Ad,sc,rfl,_⟩:=ξ;obtain⟨T,U,f,rfl⟩:∃(T:OA) (U f:Nat),mv=.slice T U f:=(by obtain⟨x,y,e,_⟩:=Z;exact⟨_,_,_,e⟩)
 obtain⟨D,b⟩:=xE perm.length;obtain⟨G,d⟩:=xE B.length;have s:=zh b;have u:=zh d;rw[<-b] at r|-;rw[<-d] at t|-;clear Z θ b d;have Ao:¬(n:Int)<1:=om;have t2:¬(64:Int)<(n:Int):=om;go_enter func17,ntmps17;go_upto_region 1 with fail;obtain⟨w1,t3,t5,v,z,δ,ζ,η,ε⟩:=FQ w [(P:aV),(M:aV),.slice T U f] [.slice Ac D Ag,.slice Ad G sc,(fr:aV)] 24 29;rw[v,δ,z];have i:=zh ε;have k:=zh ζ;have ω:=zh η;clear v z δ ζ η ε;obtain⟨H,I,J,_,_,_⟩:=k.three;go_wp2_with fail;apply(Ab.out w1 i).mono;rintro e w2⟨a,rfl,π,Q⟩;have O:=zh (aC i Q);have l:=zh (k.belowS Q);have q:=zh (ω.belowS Q);have φ:=zh π.out;clear π Q H I J;obtain⟨H,I,J,_,_,_⟩:=l.three;obtain⟨V,W,X⟩:=q.monB;by_cases N:D=n
 .by_cases R:G=n
  .have c:((D:Int) !=(n:Int))=false:=by rw[eB];omega
   have ν:((G:Int) !=(n:Int))=false:=by rw[eB];omega
   have p:Hid (perm=n/\B=n):=aG ⟨s.out▸N,u.out▸R⟩;clear N R;go_wp2_with fail;apply(JP w2 _ perm (n:Int) (r.below O zr)).mono;rintro e Ah⟨C,rfl,κ,L⟩;have E:=zh (aC O L);have σ:=zh (l.belowS L);have Aa:=zh (q.belowS L);have m:=zh (φ.on L);have S:=zh κ;clear κ L H I J V W X c ν;obtain⟨H,I,J,_,_,_⟩:=σ.three;obtain⟨V,W,X⟩:=Aa.monB;by_cases F:C=6
   .subst F;have A:Hid (¬lN (aF P M) M n perm B fr):=aG fun h=>by
     have:=S.2 h.inj;omega
    go_wp2;go_ret2;exact⟨_,6,rfl,⟨fun h=>aB h dC,fun h=>aB h A⟩,fun h=>aB h dC,E.out⟩
   .have Al:(C !=6)=true:=by rw[eC];exact F
    by_cases Am:fr<0
    .have A:Hid (¬lN (aF P M) M n perm B fr):=aG fun h=>by have:=h.fr;omega
     clear F;go_wp2;go_ret2;exact⟨_,6,rfl,⟨fun h=>aB h dC,fun h=>aB h A⟩,fun h=>aB h dC,E.out⟩
    .by_cases An:M<=fr
     .have A:Hid (¬lN (aF P M) M n perm B fr):=aG fun h=>by have:=h.fr;omega
      clear F;go_wp2;go_ret2;exact⟨_,6,rfl,⟨fun h=>aB h dC,fun h=>aB h A⟩,fun h=>aB h dC,E.out⟩
     .by_cases K:C=0
      .subst K;have ψ:=zh (S.1 rfl);have τ:Hid (0<=fr/\fr<M):=aG ⟨om,om⟩;clear F;go_wp2_with fail;apply(JO Ah a P M Mq _ B m (t.below E zr)).mono;rintro e Ap⟨Ae,rfl,ι,Y⟩;have ρ:=zh (aC E Y);have χ:=zh (m.on Y);have o:=zh ι;clear ι Y H I J V W X;go_wp2;go_ret2;exact⟨_,Ae,rfl,⟨fun h=>⟨p.1,p.2,ψ.out,τ.out,o.1 h⟩,fun h=>o.2 h.fac⟩,fun _=>⟨a,rfl,χ.out⟩,ρ.out⟩
      .have Ai:(C==0)=false:=by rw[eA];exact K
       have A:Hid (¬lN (aF P M) M n perm B fr):=aG fun h=>K (S.2 h.inj);have j:=zh K;clear F K;go_wp2;go_ret2;exact⟨_,C,rfl,⟨fun h=>aB h j,fun h=>aB h A⟩,fun h=>aB h j,E.out⟩
  .have c:((D:Int) !=(n:Int))=false:=by rw[eB];omega
   have ν:((G:Int) !=(n:Int))=true:=by rw[eC];omega
   have A:Hid (¬lN (aF P M) M n perm B fr):=aG fun h=>R (u.out▸h.sl);clear N R;go_wp2;go_ret2;exact⟨_,3,rfl,⟨fun h=>aB h dC,fun h=>aB h A⟩,fun h=>aB h dC,O.out⟩
 .have c:((D:Int) !=(n:Int))=true:=by rw[eC];omega
  have A:Hid (¬lN (aF P M) M n perm B fr):=aG fun h=>N (s.out▸h.pl);clear N;go_wp2;go_ret2;exact⟨_,3,rfl,⟨fun h=>aB h dC,fun h=>aB h A⟩,fun h=>aB h dC,O.out⟩
theorem CJ(w:Wo)(P M fr:Int)(n:Nat)(mv pv sv:Va)(Mq perm J:LI)(F:SI w mv Mq)(U:cZ P M Mq)(k:1<=n)(m:n<=64)(G:SI w pv perm)(H:SI w sv J):
 Calls prog 7 #[.agg #[P,M,mv],n,.agg #[pv,sv,fr]] w (fun e w'=>∃B:Int,e=.returned (B:aV)/\(B=0↔lN (aF P M) M n perm J fr)/\Below w w w'):=by
 have Y:=zh (fun(w':Wo) (E:Below w w w')=>E7 w' P M fr n mv pv sv Mq perm J (F.below E zr) U k m (G.below E zr) (H.below E zr));obtain⟨Z,p,o,rfl⟩:∃(A:OA) (l c:Nat),pv=.slice A l c:=(by obtain⟨x,y,e,_⟩:=G;exact⟨_,_,_,e⟩)
 obtain⟨a,q,sc,rfl⟩:∃(A:OA) (l c:Nat),sv=.slice A l c:=(by obtain⟨x,y,e,_⟩:=H;exact⟨_,_,_,e⟩)
 obtain⟨C,D,I,rfl⟩:∃(C:OA) (D I:Nat),mv=.slice C D I:=(by obtain⟨x,y,e,_⟩:=F;exact⟨_,_,_,e⟩)
 clear F U G H;go_enter func7,ntmps7;go_upto_region 1 with fail;obtain⟨w1,t3,t5,L,N,O,S,T,Q⟩:=FQ w [(P:aV),(M:aV),.slice C D I] [.slice Z p o,.slice a q sc,(fr:aV)] 24 29;rw[L,O,N];have K:=zh Q;obtain⟨b,d,f,_,_,_⟩:=S.three;obtain⟨h,i,j⟩:=T.monB;clear L N O Q;go_wp2_with fail;apply(Y.out w1 K).mono;rintro e w2⟨g,B,rfl,V,_,R⟩;have W:=zh (aC K R);have X:=zh V;clear V R b d f h i j S T;go_wp2;go_ret;exact⟨B,rfl,X.out,W.out⟩
def fY(O:aQ)(n:Nat)(perm sc x:LI):LI:=aT n fun j=>O.mul (sc (perm.idxOf (j:Int)) 0) (x (perm.idxOf (j:Int)) 0)
theorem lN.isP{q M fr:Int}{n:Nat}{perm sc:LI}(h:lN q M n perm sc fr):IsP n perm:=⟨h.pl,fun i hi=>h.inj.1 i (by rw[h.pl];exact hi),fun i j hi A e=>h.inj.2 i j (by rw[h.pl];exact hi) (by rw[h.pl];exact A) e⟩
theorem jU(O:aQ)(n:Nat)(perm sc x:LI):(fY O n perm sc x).length=n:=aW _ _
theorem uL{O:aQ}{n:Nat}{perm sc x:LI}(A:IsP n perm){i:Nat}(hi:i<n):(fY O n perm sc x).getD (perm i 0).toNat 0=O.mul (sc i 0) (x i 0):=by have h:=A.nat hi;rw[fY,aK h.1,<-h.2,MQ A hi]
theorem Q9(w:Wo)(a n:Nat)(P M:Int)(Mq:LI)(pv sv Ak:Va)(perm sc x:LI)(Ab:GF w a P M Mq)(hO:(aD P M Mq).Fld (aF P M))(Ae:SI w pv perm)(Af:SI w sv sc)(Ag:SI w Ak x)(J:lN (aF P M) M n perm sc 0)(hn:n<=64)(c:x=n)(L:∀j,0<=x j 0/\x j 0<aF P M):
 Calls prog 28 #[.pointer a,.agg #[pv,sv,z0],Ak] w (sN w (fY (aD P M Mq) n perm sc x)):=by
 have Bm:=fun(w:Wo)=>dX n om w;have Am:=zh Ab;have ι:=zh Ae;have ν:=zh Af;have π:=zh Ag;have Ao:=zh J;have Aq:=zh L;have H:=zh J.isP;have Aw:=zh c;obtain⟨χ,Ai,rfl,_⟩:=Ae;obtain⟨ψ,Aj,rfl,_⟩:=Af;obtain⟨Bj,Bp,rfl,_⟩:=Ag;rw[J.pl] at ι|-;rw[J.sl] at ν|-;rw[c] at π|-;clear Ab J L c hO;go_enter func28,ntmps28;go_upto_region 1 with fail;obtain⟨w1,δ,I,C,Ac,Ad⟩:=aR w 29 [.slice χ n Ai,.slice ψ n Aj,.int .i64 0];rw[I,C];have ε:=zh Ad;have ρ:=zh Ac;clear I C Ac Ad;go_upto_region 2 with fail;obtain⟨w2,g,I,C,L,W⟩:=BG w1 n;rw[I,C];have ζ:=zh (aC ε W);have κ:=zh L;have σ:=zh (ρ.belowS W);have Bk:w<=g:=by have:=ε.size;omega
 have At:Hid (δ<g):=aG (oA ρ.lt);clear I C L W;go_wp2;go_loopw [15] (fun l wr=>∃(j:Nat) (ys:LI),j<=n/\l=(j:aV)/\ys=n/\Hid (RI wr g ys)/\Hid (∀t,t<j->ys (perm t 0).toNat 0=bM P M Mq (sc t 0) (x t 0))/\Hid (Below w w wr)/\Hid (Blk wr δ 29 [.slice χ n Ai,.slice ψ n Aj,.int .i64 0])) (fun l _=>n-(intOf l).toNat)
 .exact⟨0,_,aZ5 _,rfl,eG,κ,aG (fun t h=>aB h (aY5 _)),ζ,σ⟩
 .
  clear κ ζ σ;obtain⟨j,ys,Bl,rfl,F,μ,ξ,A,η⟩:=hrel;by_cases Q:j<n
  .obtain⟨Bq,z,rfl,Bb,_,φ⟩:=(π.below A zr).elt (k:=j) (Aw.out▸Q);obtain⟨Bo,s,rfl,Y,_,As⟩:=(ν.below A zr).elt (k:=j) (by rw[Ao.out.sl];exact Q);obtain⟨Bn,y,rfl,Z,Ah,τ⟩:=(ι.below A zr).perm H.out Q;obtain⟨S,T,U⟩:=η.monB;have θ:=zh ((Am.on A).on (aI wr));have f:=Aq.out j;rw[φ.out] at f;have Ay:=zh f;clear f;go_upto_region 5 with fail;refine de 20 S T U Z Y fun V=>?_;refine dq 0 ?_;refine dq 1 ?_;refine dq 2 ?_;refine dq 3 ?_;refine dq 4 ?_;refine dq 5 ?_;refine dq 6 ?_;refine dq 7 ?_;refine dq 8 ?_;refine dq 9 ?_;refine dq 10 ?_;refine dq 11 ?_;refine dq 12 ?_;refine dq 13 ?_;refine dq 14 ?_;refine dq 15 ?_;try simp only[tz]
   refine dn 16 fun K hK=>?_;go_simp;apply(N5 wr.drew a P M z Mq θ Ay).mono;rintro e Bh⟨rfl,X⟩;have G:=zh (aC (aI wr) X);have An:=zh (θ.on X);have m:=aE G.out S;have o:=aE G.out T;have q:=aE G.out U;have r:=aE G.out Z;have v:=aE G.out Y;clear X;refine hK.out _ _ (fun _=>⟨m,o,q,r,v⟩) (fun D=>?_);replace V:=D dC;clear D;try simp only[tz]
   refine dn 17 fun K hK=>?_;go_simp;apply(lE Bh a P M s z Mq An).mono;rintro e Bi⟨rfl,E⟩;have N:=zh (aC G E);have x0:=aE E m;have x1:=aE E o;have x2:=aE E q;have x3:=aE E r;have x4:=aE E v;have R:=zh (μ.belowS N);have Av:=zh (η.belowS N);have Az:=R.cell y (by rw[F];exact Ah);have Ba:=R.frozen y;clear E;refine hK.out _ _ (fun _=>⟨x0,x1,x2,x3,x4⟩) (fun D=>?_);replace V:=D dC;clear D;try simp only[tz]
   refine dq 18 ?_;try simp only[tz]
   refine dn 19 fun K hK=>?_;go_simp;refine hK.out _ _ (fun h=>aB rfl h) fun _=>?_;refine dw ?_;try simp only[tz]
   clear V;have Ar:=zh (R.set y (bM P M Mq s z));have Bg:(ys.set y (bM P M Mq s z)).length=n:=by rw[aZ9];exact F
   have Au:Hid (∀t,t<j+1->(ys.set y (bM P M Mq s z)).getD (perm t 0).toNat 0=bM P M Mq (sc t 0) (x t 0)):=aG fun t d=>by
    by_cases e:t=j
    .subst e;rw[τ.out,aZ8,As.out,φ.out];simp[List.getD,F,Ah]
    .have Bc:y≠(perm t 0).toNat:=fun C=>e (H.inj t j om Q (by have:=(H.nat (i:=t) om).2;rw[τ.out];omega));have Bd:∀u,y≠u->(ys.set y (bM P M Mq s z)).getD u 0=ys u 0:=fun u Be=>by simp[List.getD,List.getElem?_set_ne Be]
     rw[Bd _ Bc];exact ξ.out t om
   have Al:=zh ((aC A N).grown (aU Bi g y (.int .i64 (bM P M Mq s z))) (aC A N).size (fun b e=>oA (aZ0 e)));have Ax:=zh (Av.far (p:=⟨g,y,none⟩) (by have:=At.out;intro e;have C:δ=g:=e;omega) (.int .i64 (bM P M Mq s z)));clear S T U Z Y Bb m o q r v x0 x1 x2 x3 x4 Az Ba;go_wp2;exact⟨⟨j+1,_,om,pC,Bg,Ar,Au,Al,Ax⟩,oI⟩
  .obtain rfl:n=j:=om;have Bf:ys=fY (aD P M Mq) n perm sc x:=GZ (by rw[F,jU]) fun i hi=>by rw[F] at hi;obtain⟨t,d,e⟩:=H.surj hi;have ω:=ξ.out t d;have Aa:=uL (O:=aD P M Mq) (sc:=sc) (x:=x) H.out d;rw[e,aZ8] at ω Aa;rw[ω,Aa];rfl
   have Ap:Hid (OI w wr (.slice g n n) (fY (aD P M Mq) n perm sc x)):=aG (by have:=μ.oi (B:=w.heap.size) om (by rw[F];omega);rw[F,Bf] at this;exact this);go_wp2;go_ret;exact⟨_,rfl,Ap.out,A.out⟩
theorem jq(w:Wo)(cs ds A:List Va)(s t u:TypeId):∃w1 t2 t3 D,((w.alloc (.cells cs.toArray s)).alloc (.cells ds.toArray t)).alloc (.cells A.toArray u)=w1/\w.heap.size=t2/\w.heap.size+1=t3/\w.heap.size+1+1=D/\Blk w1 t2 s cs/\Blk w1 t3 t ds/\Blk w1 D u A/\Below w w w1:=by
 obtain⟨w1,t2,t3,B,E,F,G,H,I⟩:=FQ w cs ds s t;have C:=Blk.new w1 u A;rw[B];have J:w1.heap.size=w.heap.size+1+1:=by rw[<-B,World.size_alloc,World.size_alloc]
 rw[J] at C;exact⟨_,_,_,_,rfl,E,F,rfl,G.alloc _,H.alloc _,C,aC I (aH w1 _)⟩
theorem J6{O:aQ}{q:Int}(hO:O.Fld q)(n:Nat)(perm sc x:LI)(j:Nat):0<=(fY O n perm sc x).getD j 0/\(fY O n perm sc x).getD j 0<q:=by
 by_cases A:j<n
 .rw[fY,aK A];exact hO.lt.mul _ _
 .rw[aZ4,aY4 (by rw[jU];omega)];have:=hO.lt.pos;exact⟨Int.le_refl _,by show(0:Int)<q;omega⟩
theorem R3{O:aQ}{q:Int}(hO:O.Fld q)(n:Nat)(perm sc:LI)(gen:LL):Rows q n (gen.map (fY O n perm sc)):=yF fun k _=>⟨jU _ _ _ _ _,fun i=>J6 hO n perm sc _ i⟩
theorem ew{P M:Int}{l:LI}(h:∀j,0<=l j 0/\l j 0<aF P M)(j:Nat):I64 (l j 0):=by have A:=h j;have B:=aM P M;exact I64.of_small om om
theorem QW(w:Wo)(P M:Int)(n:Nat)(mv gv pv sv:Va)(Mq perm sc:LI)(gen:LL)(t:SI w mv Mq)(Ad:SS w gv gen)(ω:fE P M Mq (n:Int) gen=0)(μ:SI w pv perm)(ν:SI w sv sc)(Af:lN (aF P M) M n perm sc 0)(Eo:gen.length<=64):
 Calls prog 11 #[.agg #[P,M,mv,n,gv],.agg #[pv,sv,z0]] w (iV w P M Mq n (bC (aD P M Mq) (gen.map (fY (aD P M Mq) n perm sc)) n) 0):=by
 obtain⟨η,hn1,Es,Ep,Aa,Ab⟩:=fP ω;rw[aZ8] at Aa;have hO:=dR η;have ρ:=zh (fun(w':Wo) (E:Below w w w')=>kG w' P M n mv gv Mq gen (t.below E zr) (Ad.below E zr));rw[ω] at ρ;have Dx:=zh (fun(w':Wo) (E:Below w w w')=>E7 w' P M 0 n mv pv sv Mq perm sc (t.below E zr) η om om (μ.below E zr) (ν.below E zr));have Dm:=zh (fun(w':Wo) (E:Below w w w') (a:Nat) (De:Va) (x:LI) (θ:GF w' a P M Mq) (Eu:SI w' De x) (Er:x=n) (U:∀j,0<=x j 0/\x j 0<aF P M)=>Q9 w' a n P M Mq pv sv De perm sc x θ hO (μ.below E zr) (ν.below E zr) Eu Af om Er U);have Cd:fB P M Mq (n:Int) (gen.map (fY (aD P M Mq) n perm sc))=0:=rS η om (by rw[aY7];omega) (R3 hO n perm sc gen);have Dt:=zh (fun(w':Wo) (E:Below w w w') (rv:Va) (U:SS w' rv (gen.map (fY (aD P M Mq) n perm sc)))=>OR w' P M n mv rv Mq _ (t.below E zr) U Cd om om);have Dr:Hid (n<=64):=aG om;have Ea:=zh Aa;have Ax:=zh Ad;have Du:=zh hO;have Dp:=zh Af;obtain⟨Bi,Cs,Cr,rfl⟩:∃(A:OA) (l c:Nat),pv=.slice A l c:=(by obtain⟨x,y,e,_⟩:=μ;exact⟨_,_,_,e⟩)
 obtain⟨Bk,Db,Da,rfl⟩:∃(A:OA) (l c:Nat),sv=.slice A l c:=(by obtain⟨x,y,e,_⟩:=ν;exact⟨_,_,_,e⟩)
 obtain⟨χ,ψ,Ao,rfl⟩:∃(χ:OA) (ψ Ao:Nat),mv=.slice χ ψ Ao:=(by obtain⟨x,y,e,_⟩:=t;exact⟨_,_,_,e⟩)
 obtain⟨Df,En,rfl,_⟩:=Ad;obtain⟨r,U⟩:=xE gen.length;have ε:=zh U;rw[<-U] at Ax ρ Eo|-;clear t ω μ ν Af η hn1 Es Aa hO Cd U Ep Ab;go_enter func11,ntmps11;go_upto_region 1 with fail;obtain⟨w1,t2,t3,Dc,O,B,Bm,Bn,Bw,Bx,Bz,Bu⟩:=jq w [(P:aV),(M:aV),.slice χ ψ Ao,(n:aV),.slice Df r En] [.slice Bi Cs Cr,.slice Bk Db Da,.int .i64 0] [.int .i64 0,.int .i64 0,.slice none 0 0,.int .i64 0,.slice none 0 0] 27 29 27;rw[O];rw[Bn,Bm,B];have Aq:=zh Bu;have Au:=zh Bw;have Do:=zh Bx;have Dy:=zh Bz;have Ee:Hid (w<=t2/\t2<t3/\t3<Dc):=aG om;clear O B Bm Bn Bu Bw Bx Bz;obtain⟨c0,c1,c2,c3,c4,_,_,_,_,_⟩:=Au.five;go_wp2_with fail;apply(ρ.out w1 Aq).mono;rintro e w2⟨rfl,q⟩;have Ar:=zh (aC Aq q);have Av:=zh (Au.belowS q);have Az:=zh (Do.belowS q);have Dz:=zh (Dy.belowS q);clear q c0 c1 c2 c3 c4;obtain⟨c0,c1,c2,c3,c4,_,_,_,_,_⟩:=Av.five;obtain⟨m,o,p⟩:=Az.monB;go_wp2_with fail;apply(Dx.out w2 Ar).mono;rintro e J⟨g,Ek,rfl,Cc,Cb,s⟩;obtain rfl:Ek=0:=Cc.2 Dp.out;obtain⟨a,rfl,θ⟩:=Cb rfl;have Aw:=zh θ;have As:=zh (aC Ar s);have π:=zh (Av.belowS s);have f:=zh (Az.belowS s);have Bb:=zh (Dz.belowS s);clear Cc Cb θ s c0 c1 c2 c3 c4 m o p;obtain⟨c0,c1,c2,c3,c4,_,_,_,_,_⟩:=π.five;go_upto_region 8 with fail;obtain⟨Fb,t9,O,B,Bv,S⟩:=aR J 74 [(n:aV),.slice none 0 0];rw[O,B];have Fe:=zh (aC As S);have Dh:=zh (π.belowS S);have Fg:=zh (f.belowS S);have Fh:=zh (Bb.belowS S);have Bg:=zh Bv;have Ff:=zh (Aw.on S);have Ef:Hid (J.heap.size=t9):=aG B;have Ba:Hid (OS J (fun g=>g=t9) Fb (():aV) ((gen.take 0).map (fY (aD P M Mq) n perm sc))):=aG (OS.nil _ _ _);have At:=zh S;have i:Hid (∀g,(Value.slice none 0 0).ownBlock=some g->g≠t9):=aG fun g Q=>by simp[Value.ownBlock] at Q
 clear O B S Bv c0 c1 c2 c3 c4;obtain⟨c0,c1,c2,c3,c4,_,_,_,_,_⟩:=Dh.five;go_wp2_with fail;clear c0 c1 c2 c3 c4;go_loopw [37] (fun Ai wr=>∃(j:Nat) (rv:Va),j<=r/\Ai=(j:aV)/\Hid (OS J (fun g=>g=t9) wr rv ((gen.take j).map (fY (aD P M Mq) n perm sc)))/\Hid (∀g,rv.ownBlock=some g->g≠t9)/\Hid (Blk wr t9 74 [(n:aV),rv])/\Hid (Below J J wr)) (fun Ai _=>r-(intOf Ai).toNat)
 .exact⟨0,_,aZ5 _,rfl,Ba,i,Bg,At⟩
 .
  clear Ba Bg At i;obtain⟨j,rv,Fm,rfl,δ,i,ζ,N⟩:=hrel;have Dj:=zh (π.belowS N);have Dq:=zh (f.belowS N);have σ:=zh (Bb.belowS N);have d:=zh (aC As N);have Dk:=zh (Aw.on N);obtain⟨Bj,Cz,Cy,Et⟩:∃(Bj:OA) (Cz Cy:Nat),rv=.slice Bj Cz Cy:=(by obtain⟨x,y,e⟩:=δ.form;exact⟨_,_,_,e⟩)
  subst Et;by_cases Ae:j<r
  .obtain⟨Fj,Fc,Fi,x,rfl,Ab,Eb,Bd⟩:=(Ax.below d zr).eltA (k:=j) (ε.out▸Ae);have φ:=zh (Ea j (ε.out▸Ae));rw[Bd.out] at φ;have Ed:Hid ((gen.take (j+1)).map (fY (aD P M Mq) n perm sc)=(gen.take j).map (fY (aD P M Mq) n perm sc)++[fY (aD P M Mq) n perm sc x]):=aG (by
    rw[C8 _ (ε.out▸Ae),Bd.out])
   have Dn:Hid (((gen.take j).map (fY (aD P M Mq) n perm sc)).length+1<=4398046511104):=aG (by rw[aY7,aY3];omega);obtain⟨m,o,p⟩:=Dq.monB;have x1:=ζ.cell 1;simp only[eE,eF] at x1;have Ca:=Dm.out wr.drew (aC d (aI wr)) a _ x (Dk.on (aI wr)) (Eb.si.below (aI wr) zr) φ.1 φ.2;have Di:=zh Ca;have Dl:=zh (fun k=>ew (J6 Du.out n perm sc x) k);clear Ca;go_upto_region 11 with fail;clear Ab;refine dd 10 x1 m o p fun ι=>?_;refine dq 0 ?_;refine dq 1 ?_;refine dq 2 ?_;refine dq 3 ?_;refine dq 4 ?_;try simp only[tz]
   refine dn 5 fun K hK=>?_;go_simp;apply Di.mono;rintro e Dd⟨u,rfl,Ag,V⟩;have L:=zh (aC (aI wr) V);have Aj:=aE L.out x1;have Al:=aE L.out m;have Am:=aE L.out o;have An:=aE L.out p;have Bf:=zh Ag;obtain⟨C,D,F,rfl⟩:∃(C:OA) (D F:Nat),u=.slice C D F:=(by obtain⟨x,y,e⟩:=Ag.form';exact⟨_,_,_,e⟩);clear V Ag;refine hK.out _ _ (fun _=>⟨Aj,Al,Am,An⟩) (fun G=>?_);replace ι:=G dC;clear G;try simp only[tz]
   refine dp 6 fun K hK=>?_;go_simp;obtain⟨Fo,Em,O,B,Bt,T⟩:=aR Dd 22 [.slice C D F];rw[O,B];have Ei:=zh Bt;have Y:=zh (aC L T);have Eh:=zh ((Bf.below T zr).si (by rw[jU];have:=Dr.out;omega) Dl);have Ay:=zh (δ.below Y);have Bh:=zh (ζ.belowS Y);have Cj:=aE T Aj;have Ck:=aE T Al;have Cl:=aE T Am;have Cm:=aE T An;clear O B Bt T;refine hK.out _ _ (fun _=>⟨Cj,Ck,Cl,Cm⟩) (fun G=>?_);replace ι:=G dC;clear G;try simp only[tz]
   refine dp 7 fun K hK=>?_;refine sB rfl _ _ rfl J (fun g=>g=t9) _ ((gen.take j).map (fY (aD P M Mq) n perm sc)) rfl Ay.out Em 1 (.slice C D F) (fY (aD P M Mq) n perm sc x) rfl (Ei.cell 0) Eh.out (fun Fk g Q=>(by have Fl:=(Bf.lt Q).1;have Ci:wr.drew.heap.size=wr.heap.size:=rfl;exact⟨fun h=>(oA ((δ.lt h).2)),fun h=>(oA ζ.lt)⟩)) Dn.out (aZ6 N.size Y.size) ?_;intro Fa X κ Ac Cf;rw[<-Ed.out] at κ;obtain⟨H,W,I,rfl⟩:∃(H:OA) (W I:Nat),Fa=.slice H W I:=(by obtain⟨x,y,e⟩:=κ.form;exact⟨_,_,_,e⟩);have Z:Hid (Below J J X):=aG ((aC N Y).grown Ac (aZ6 N.size Y.size) (fun g e=>(Ay.lt e).1));have τ:=zh (Bh.grown Ac (fun e=>i.out t9 e.symm rfl));have Be:Hid (∀g,(Value.slice H W I).ownBlock=some g->g≠t9):=aG (fun g Q=>(by rcases Cf with e|e;exact i.out g (e▸Q);rw[e] at Q;injection Q with Q;have:=Bh.lt;omega));have Dv:=zh κ;have Ap:=τ.cell 1;have El:=τ.frozen 1;simp only[eE,eF] at Ap;have Co:X.cell? t3=some (.slice Bi Cs Cr):=((f.belowS Z).monB).1;have Cp:X.cell? (t3 1 none)=some (.slice Bk Db Da):=((f.belowS Z).monB).2.1;have Cq:X.cell? (t3 2 none)=some (z0:aV):=((f.belowS Z).monB).2.2;clear κ Ac Cf;refine hK.out _ _ (fun _=>⟨Ap,Co,Cp,Cq⟩) (fun G=>?_);replace ι:=G dC;clear G;try simp only[tz]
   refine dq 8 ?_;try simp only[tz]
   refine dn 9 fun K hK=>?_;go_simp;refine hK.out _ _ (fun h=>aB rfl h) fun _=>?_;refine dw ?_;try simp only[tz]
   clear ι;have Dw:=zh (Dv.grown (aU X t9 1 (.slice H W I)) (fun g e=>by have B:=aZ0 e;exact⟨fun h=>Be.out g h B.symm,B.symm⟩));have Ej:=zh (τ.set_ 1 (.slice H W I));have Dg:=zh (Z.grown (aU X t9 1 (.slice H W I)) Z.size (fun g e=>by have B:=aZ0 e;have:=Ef.out;omega));clear x1 m o p Aj Al Am An Cj Ck Cl Cm Ap Co Cp Cq El;go_wp2;exact⟨⟨j+1,_,om,pC,Dw,Be,Ej,Dg⟩,oI⟩
  .obtain rfl:r=j:=om;have Ah:=δ.ss (by rw[aY7,aY3];omega);rw[ε.out,List.take_length] at Ah;have Ds:=zh (Dt wr d _ Ah);obtain⟨c0,c1,c2,c3,c4,_,_,_,_,_⟩:=Dj.five;obtain⟨x0,x1,_,_⟩:=ζ.two;obtain⟨Ct,Cu,Cv,Cw,Cx,Bo,Bp,Bq,Br,Bs⟩:=σ.five;clear Ah;go_wp2_with fail;apply Ds.mono;rintro e Dd⟨u,gg,rfl,ξ,V⟩;have L:=zh (aC d V);have Ec:=zh ξ;have Bc:=zh (σ.belowS V);have Ce:Dc<wr.heap.size:=σ.lt;have Eg:=zh Ce;obtain⟨C,D,F,rfl⟩:∃(C:OA) (D F:Nat),u=.slice C D F:=(by obtain⟨x,y,e,_⟩:=ξ.out.1;exact⟨_,_,_,e⟩)
   obtain⟨H,Bl,I,rfl⟩:∃(C:OA) (D F:Nat),gg=.slice C D F:=(by obtain⟨x,y,e,_⟩:=ξ.out.2;exact⟨_,_,_,e⟩)
   clear ξ V Ce c0 c1 c2 c3 c4 x0 x1 Ct Cu Cv Cw Cx Bo Bp Bq Br Bs;obtain⟨Ct,Cu,Cv,Cw,Cx,Bo,Bp,Bq,Br,Bs⟩:=Bc.five;go_wp2_with fail;obtain⟨Fp,Ci,R⟩:=zL (x:=(P:aV)) (y:=(M:aV)) (z:=.slice C D F) (u:=(n:aV)) (v:=.slice H Bl I) Bc.out;rw[Ci];have Ev:=R.c0;have Ew:=R.c1;have Ex:=R.c2;have Ey:=R.c3;have Ez:=R.c4;refine bodyPost_ret (v:=.tuple #[.agg #[P,M,.slice C D F,n,.slice H Bl I],z0]) (by simp[results,results11,go_sem,Ev,Ew,Ex,Ey,Ez]) rfl ?_;exact⟨_,_,rfl,(Ec.grown R.gr (by rintro b e;cases e;exact Eg.out)).mono d.size,R.below L L.size (oA Ee.out)⟩
end
section
structure dA(q:Int)(n:Nat)(perm sc:LI):Prop where
 isP:IsP n perm
 sl:sc=n
 nz:∀i,i<n->1<=sc i 0/\sc i 0<q
theorem nC.whole{q:Int}{n:Nat}{tl sc:LI}(h:nC q n tl sc)(hn:sc=n):dA q n tl sc:=
 ⟨⟨h.len.trans hn,fun i hi=>h.rng i (by rw[h.len,hn];exact hi),fun i j hi A e=>h.inj i j (by rw[h.len,hn];exact hi) (by rw[h.len,hn];exact A) e⟩,hn,fun i hi=>h.nz i (by rw[hn];exact hi)⟩
theorem dA.pmap{q:Int}{n:Nat}{tl sc:LI}(h:dA q n tl sc):nC q n tl sc:=
 ⟨h.isP.len.trans h.sl.symm,Nat.le_of_eq h.sl,fun i hi=>h.isP.rng i (by rw[<-h.isP.len];exact hi),fun i j hi A e=>h.isP.inj i j (by rw[<-h.isP.len];exact hi) (by rw[<-h.isP.len];exact A) e,fun i hi=>h.nz i (by rw[<-h.sl];exact hi)⟩
theorem lN.whole{q M fr:Int}{n:Nat}{perm sc:LI}(h:lN q M n perm sc fr):dA q n perm sc:=⟨h.isP,h.sl,fun i hi=>h.fac i (by rw[h.sl];exact hi)⟩
def jP(O:aQ)(n:Nat)(c:Nat->Int)(k:Nat->Nat)(x:LI):LI:=aT n fun j=>O.mul (c j) (x (k j) 0)
theorem WJ{α β:Type}(f:α->β)(l:List α)(i:Nat)(d:α)(e:β)(h:i<l.length):(l.map f).getD i e=f (l i d):=by simp[List.getD,h]
theorem aa{f:LI->LI}{l:LL}{i:Nat}(hi:i<l.length)(j:Nat):ent (l.map f) i j=(f (l i [])).getD j 0:=by unfold ent;rw[WJ f l i [] [] hi]
theorem K7{N:Nat}{f:Nat->Int}{k:Nat}(h:N<=k):(aT N f).getD k 0=0:=by rw[aZ4,aY4 (by rw[aW];exact h)];rfl
theorem zG{O:aQ}{n:Nat}{c:Nat->Int}{k:Nat->Nat}{l:LL}{i:Nat}(hi:i<l)(j:Nat):ent (l.map (jP O n c k)) i j=if j<n then O.mul (c j) (ent l i (k j)) else 0:=by
 rw[aa hi];by_cases A:j<n
 .rw[iP A,jP,aK A];rfl
 .rw[iN A,jP,K7 om]
section
variable {O:aQ} {q:Int} (hO:O.Fld q)
include hO
theorem xY{n:Nat}{c:Nat->Int}{k:Nat->Nat}{A B:LL}(h:cH O A B):cH O (A.map (jP O n c k)) (B.map (jP O n c k)):=fun i hi=>by
 rw[aY7] at hi;obtain⟨a,E⟩:=h i hi;refine⟨a,fun j=>?_⟩;rw[zG hi,aY7];by_cases C:j<n
 .rw[iP C,E,eY hO];refine aO fun t D=>?_;rw[zG D,iP C,<-hO.mul_assoc,<-hO.mul_assoc,hO.mul_comm (c j) (a t)]
 .rw[iN C];refine(bR hO fun t D=>?_).symm;rw[zG D,iN C,hO.mul_zero]
theorem sZ{n:Nat}{c:Nat->Int}{k:Nat->Nat}{A B:LL}(h:fN O A B):fN O (A.map (jP O n c k)) (B.map (jP O n c k)):=⟨xY hO h.1,xY hO h.2⟩
theorem TU{n:Nat}{p x:LI}(B:p=n)(A:∀j,0<=x j 0/\x j 0<q):gP p x=jP O n (fun _=>1) (fun i=>(p i 0).toNat) x:=by refine GZ (by rw[lL,jP,aW,B]) fun i hi=>?_;rw[lL] at hi;rw[gP,aK hi,jP,aK om,hO.one_mul (A _).1 (A _).2]
theorem O6{n:Nat}{p:LI}{l:LL}(B:p=n)(A:Rows q n l):l.map (gP p)=l.map (jP O n (fun _=>1) (fun i=>(p i 0).toNat)):=by refine List.map_congr_left fun x C=>?_;obtain⟨i,hi,rfl⟩:=List.getElem_of_mem C;have:=(A i hi).2;rw[aZ4,aZ3 hi] at this;exact TU hO B this
theorem KH{n:Nat}{p:LI}{l:LL}(C:IsP n p)(G:Rows q n l):(l.map (gP p)).map (jP O n (fun _=>1) fun j=>p.idxOf (j:Int))=l:=by
 rw[List.map_map];refine(List.map_congr_left (g:=id) fun x H=>?_).trans (List.map_id l);obtain⟨i,hi,rfl⟩:=List.getElem_of_mem H;have:=G i hi;rw[aZ4,aZ3 hi] at this;obtain⟨D,A⟩:=this;change l[i].length=n at D;change∀j,0<=l[i].getD j 0/\l[i].getD j 0<q at A;refine GZ (by rw[Function.comp,jP,aW];exact D.symm) fun j B=>?_;rw[Function.comp,jP,aW] at B;obtain⟨t,E,e⟩:=C.surj B;have F:p.idxOf (j:Int)=t:=by rw[<-e,MQ C E]
 rw[Function.comp,jP,aK B,F,gP,aK (by rw[C.len];exact E),e,aZ8,hO.one_mul (A j).1 (A j).2];rfl
theorem P3{n:Nat}{p:LI}{A B:LL}(C:IsP n p)(hA:Rows q n A)(hB:Rows q n B):fN O (A.map (gP p)) (B.map (gP p))↔fN O A B:=by
 constructor
 .intro h;have:=sZ hO (n:=n) (c:=fun _=>1) (k:=fun j=>p.idxOf (j:Int)) h;rwa[KH hO C hA,KH hO C hB] at this
 .intro h;rw[O6 hO C.len hA,O6 hO C.len hB];exact sZ hO h
omit hO in
theorem cw{n:Nat}{perm sc x:LI}(h:dA q n perm sc):mpE O sc x=gP perm (fY O n perm sc x):=by refine GZ (by rw[pD,lL,h.sl,h.isP.len]) fun i hi=>?_;rw[pD,h.sl] at hi;rw[mpE,aK (by rw[h.sl];exact hi),gP,aK (by rw[h.isP.len];exact hi),uL h.isP hi]
theorem R0(n:Nat)(perm sc x:LI)(j:Nat):0<=(fY O n perm sc x).getD j 0/\(fY O n perm sc x).getD j 0<q:=by
 by_cases A:j<n
 .rw[fY,aK A];exact hO.lt.mul _ _
 .rw[fY,K7 om];have:=hO.lt.pos;omega
theorem wF(n:Nat)(perm sc:LI)(gen:LL):Rows q n (gen.map (fY O n perm sc)):=yF fun k _=>⟨jU _ _ _ _ _,fun i=>R0 hO n perm sc _ i⟩
theorem xG{n:Nat}{perm sc:LI}{gen:LL}(h:dA q n perm sc)(hR:Rows q n gen):nV O gen perm sc↔fN O (gen.map (fY O n perm sc)) gen:=by
 unfold nV;have e:gen.map (mpE O sc)=(gen.map (fY O n perm sc)).map (gP perm):=by rw[List.map_map];exact List.map_congr_left fun x _=>cw h
 rw[e];exact P3 hO h.isP (wF hO n perm sc gen) hR
theorem E3{n:Nat}{perm sc:LI}{gen:LL}(hR:Rows q n gen)(B:bC O gen n=gen):bC O (gen.map (fY O n perm sc)) n=gen↔fN O (gen.map (fY O n perm sc)) gen:=by
 have A:=(cI hO (wF hO n perm sc gen)).2;constructor
 .intro e;rw[e] at A;exact⟨A.2,A.1⟩
 .intro h;rw[VR hO (wF hO n perm sc gen) hR h,B]
end
def uY(O:aQ)(q:Int)(n:Nat)(gen:LL)(perm sc:LI):Prop:=dA q n perm sc/\fN O (gen.map (fY O n perm sc)) gen
def thenS(O:aQ)(n:Nat)(A B C:LI):LI:=aT n fun i=>O.mul (C (A i 0).toNat 0) (B i 0)
section
variable {O:aQ} {q:Int} (hO:O.Fld q)
include hO
theorem XL{a b:Int}(B:1<=a/\a<q)(C:1<=b/\b<q):1<=O.mul a b/\O.mul a b<q:=by
 have A:=hO.lt.mul a b;refine⟨?_,A.2⟩;rcases(by omega:O.mul a b=0\/1<=O.mul a b) with e|e
 .rcases hO.mul_eq_zero ⟨om,B.2⟩ ⟨om,C.2⟩ e with e|e<;>omega
 .exact e
theorem XK{a b c:Int}(C:1<=a/\a<q)(A:0<=b/\b<q)(B:0<=c/\c<q)(h:O.mul a b=O.mul a c):b=c:=by
 have e:O.mul (O.inv a) (O.mul a b)=O.mul (O.inv a) (O.mul a c):=by rw[h]
 rw[<-hO.mul_assoc,<-hO.mul_assoc,hO.mul_comm (O.inv a) a,hO.mul_inv a om C.2,hO.one_mul A.1 A.2,hO.one_mul B.1 B.2] at e;exact e
theorem dA.then{n:Nat}{A C B D:LI}(h:dA q n A C)(k:dA q n B D):dA q n (aL A B) (thenS O n A C D):=
 ⟨h.isP.then k.isP,aW _ _,fun i hi=>by rw[thenS,aK hi];exact XL hO (k.nz _ (h.isP.nat hi).1) (h.nz i hi)⟩
theorem R4{n:Nat}{A B D C x:LI}(h:dA q n A B)(k:dA q n D C):fY O n D C (fY O n A B x)=fY O n (aL A D) (thenS O n A B C) x:=by
 refine GZ (by rw[jU,jU]) fun j H=>?_;rw[jU] at H;have G:=dA.then hO h k;obtain⟨i,hi,e⟩:=G.isP.surj H;have E:=uL (O:=O) (sc:=thenS O n A B C) (x:=x) G.isP hi;rw[e,aZ8] at E;have I:(D (A i 0).toNat 0)=(j:Int):=by rw[<-e,bQ (by rw[h.isP.len];exact hi)]
 have F:=uL (O:=O) (sc:=C) (x:=fY O n A B x) k.isP (h.isP.nat hi).1;rw[I,aZ8,uL h.isP hi] at F;rw[E,F,thenS,aK hi,hO.mul_assoc]
omit hO in
theorem MS(n:Nat)(perm sc:LI):fY O n perm sc=jP O n (fun j=>sc (perm.idxOf (j:Int)) 0) fun j=>perm.idxOf (j:Int):=rfl
theorem uY.then{n:Nat}{gen:LL}{B D A C:LI}(h:uY O q n gen B D)(k:uY O q n gen A C):uY O q n gen (aL B A) (thenS O n B D C):=by refine⟨dA.then hO h.1 k.1,?_⟩;have E:=sZ hO (n:=n) (c:=fun j=>C (A.idxOf (j:Int)) 0) (k:=fun j=>A.idxOf (j:Int)) h.2;rw[<-MS n A C,List.map_map] at E;have e:(fY O n A C∘fY O n B D)=fY O n (aL B A) (thenS O n B D C):=funext fun x=>R4 hO h.1 k.1;rw[e] at E;exact E.trans hO k.2
theorem dA.one(n:Nat):dA q n (idP n) (List.replicate n 1):=
 ⟨.id n,eG,fun i hi=>by
  have e:(List.replicate n (1:Int)).getD i 0=1:=by simp[List.getD,hi]
  rw[e];have:=hO.lt.pos;omega⟩
theorem uY.one{n:Nat}{gen:LL}(hR:Rows q n gen):uY O q n gen (idP n) (List.replicate n 1):=by
 refine⟨dA.one hO n,?_⟩;have e:gen.map (fY O n (idP n) (List.replicate n 1))=gen:=by
  refine(List.map_congr_left (g:=id) fun x F=>?_).trans (List.map_id gen);obtain⟨i,hi,rfl⟩:=List.getElem_of_mem F;have:=hR i hi;rw[aZ4,aZ3 hi] at this;obtain⟨D,B⟩:=this;change gen[i].length=n at D;change∀j,0<=gen[i].getD j 0/\gen[i].getD j 0<q at B;refine GZ (by rw[jU];exact D.symm) fun j A=>?_;rw[jU] at A;have C:=uL (O:=O) (sc:=List.replicate n 1) (x:=gen[i]) (.id n) A;rw[eV A,aZ8] at C;have E:(List.replicate n (1:Int)).getD j 0=1:=by simp[List.getD,A]
  rw[C,E,hO.one_mul (B j).1 (B j).2];rfl
 rw[e];exact fN.refl hO (hR.r (oA hO.lt.pos))
theorem vO.aut{n:Nat}{gen:LL}{tl sc A ls:LI}(h:vO O q n gen tl sc A ls)(hR:Rows q n gen):uY O q n gen A ls:=
 ⟨h.pm.whole h.full,(xG hO (h.pm.whole h.full) hR).1 h.com⟩
theorem uY.autX{n:Nat}{gen:LL}{tl sc A ls:LI}(h:uY O q n gen A ls)(hR:Rows q n gen)(C:A.take tl=tl)(B:ls.take sc=sc):vO O q n gen tl sc A ls:=
 ⟨h.1.pmap,h.1.sl,(xG hO h.1 hR).2 h.2,C,B⟩
end
