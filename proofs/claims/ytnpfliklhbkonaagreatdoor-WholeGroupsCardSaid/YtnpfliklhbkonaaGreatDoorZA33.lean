/- Parts. -/
import Derived.Test.YtnpfliklhbkonaaGreatDoorZA17
import Derived.Test.YtnpfliklhbkonaaGreatDoorZA30
set_option maxRecDepth 99999
set_option maxHeartbeats 0
set_option linter.unusedVariables false
namespace Go.Proofs.YtnpfliklhbkonaaGreatDoor
open Go.Proofs.Tryz
section
open Go.RowKit
theorem J9(w:Wo)(P M n:Int)(mv gv:Va)(Mq:LI)(gen:LL)(I:SI w mv Mq)(H:cZ P M Mq)
 (G:∀w',Below w w w'->Calls prog 27 #[.agg #[P,M,mv,n,gv]] w' (kV w' 0)):
 Calls prog 130 #[.agg #[P,M,mv,n,gv]] w (ip w P M Mq):=by
 have J:=zh G;have L:=zh I;have K:=zh H;have B:=zh (iC.mk' w P M mv n gv);clear G I H;go_enter func130,ntmps130;go_upto_region 1 with fail;generalize w.alloc (.cells #[P,M,mv,n,gv] 27)=w0 at*;obtain⟨C,D,E,N,O,_,_,_,_,_⟩:=B.blk.five;go_wp2_with fail;apply(J.out w0 B.bel).mono;rintro e w1⟨rfl,F⟩;have A:=zh (B.on F);clear F C D E N O;obtain⟨C,D,E,_,_,_,_,_,_,_⟩:=A.blk.five;go_wp2_with fail;apply(oO w1 P M mv Mq (L.below A.bel zr) K).mono;rintro e w2⟨a,rfl,R,Q⟩;go_wp2;refine bodyPost_ret (v:=.tuple #[.pointer a,z0]) (by simp[results,results130,go_sem]) rfl ?_;exact⟨a,rfl,R.mono A.bel.size,aC A.bel Q⟩
def zl(S:List Nat):LI:=S.map fun(i:Nat)=>(i:Int)
theorem cV(S:List Nat):(zl S).length=S.length:=by simp[zl]
theorem oV{S:List Nat}{k:Nat}(h:k<S):(zl S).getD k 0=(S k 0:Nat):=by simp[zl,List.getD,h]
theorem I1(S:List Nat)(i:Nat):zl (S++[i])=zl S++[(i:Int)]:=by simp[zl]
theorem ZM(S T:List Nat):zl (S++T)=zl S++zl T:=by simp[zl]
theorem AC{S:List Nat}{n:Nat}(hn:n<=1000000)(h:∀i,i∈S->i<n)(k:Nat):I64 ((zl S).getD k 0):=by
 by_cases hk:k<S
 .rw[oV hk];have A:=h _ (by rw[aZ4,aZ3 hk];exact aY6 hk:S k 0∈S);exact I64.of_small om om
 .rw[aZ4,aY4 (by rw[cV];omega)];exact I64.zero
structure GrW(O:aQ)(q:Int)(gen:LL)(B b a:Nat)(w0 wr:Wo)(ov:Va)(order:List Nat)(k:Nat):Prop where
 inv:∃R pl S rv pv,GrI O q gen R pl (order.take k) S/\Blk wr b 287 [.pointer a,rv,pv]/\
  OS B (fun g=>g=b\/pv.ownBlock=some g\/ov.ownBlock=some g\/g=B) wr rv R/\OI B wr pv pl/\OI B wr ov (zl S)/\
  (∀g,rv.ownBlock=some g->¬(g=b\/pv.ownBlock=some g\/ov.ownBlock=some g\/g=B))/\(∀g,pv.ownBlock=some g->g≠b/\¬(ov.ownBlock=some g\/g=B))/\(∀g,ov.ownBlock=some g->g≠b/\g≠B)
 bel:Below B w0 wr
theorem AL(w:Wo)(a:Nat)(P M:Int)(n:Nat)(mv gv ov:Va)(Mq:LI)(gen:LL)(order:List Nat)(Ax:GF w a P M Mq)(v:SS w gv gen)(hR:∀k,k<gen.length->(gen k []).length=n)
 (Cv:SI w ov (zl order))(Bf:∀i,i∈order->i<n)(hO:(aD P M Mq).Fld (aF P M))(hq:jS (aF P M) gen)(Ba:gen.length<=1000)(Cw:order.length<=1000):
 Calls prog 131 #[.pointer a,.agg #[P,M,mv,n,gv],ov] w (fun e w'=>∃S:List Nat,GrP (aD P M Mq) (aF P M) gen order S/\sN w (zl S) e w'):=by
 have δ:=zh (iC.mk' w P M mv n gv);have Bm:=zh Ax;have Ce:=zh v;have Ca:=zh hR;have Bt:=zh Bf;have l:=zh hO;have χ:=zh hq;obtain⟨Df,Dk,rfl,Be⟩:=Cv;rw[cV];have Bu:=zh Be;obtain⟨r,Aj⟩:=xE order.length;have ψ:=zh Aj;obtain⟨m,Ai⟩:=xE gen.length;have o:=zh Ai;rw[<-Aj] at Cw|-;rw[<-Ai] at Ba;clear Ax v hR Bf hO hq Be Aj Ai;go_enter func131,ntmps131;go_upto_region 1 with fail;generalize w.alloc (.cells #[P,M,mv,n,gv] 27)=w0 at*;go_upto_region 2 with fail;have Ac:=Blk.new w0 287 [.pointer a,.slice none 0 0,.slice none 0 0];have Af:=aH w0 (.cells #[.pointer a,(),()] 287);have Bl:=zh (aE Af (show w0.cell? ⟨w.heap.size,4,none⟩=some gv from δ.c4));have τ:=zh (δ.on Af);obtain⟨b,Ag⟩:=xE w0.heap.size;rw[<-Ag] at Ac|-;generalize w0.alloc (.cells #[.pointer a,(),()] 287)=w1 at*;have At:Hid (GrW (aD P M Mq) (aF P M) gen w b a w w1 (():aV) order 0):=aG ⟨⟨[],[],[],.slice none 0 0,.slice none 0 0,(by rw[List.take_zero];exact GrI.nil gen),Ac,OS.nil _ _ _,OI.nil _ _,OI.nil _ _,(fun g h=>by cases h),(fun g h=>by cases h),(fun g h=>by cases h)⟩,τ.bel⟩;have z:Hid (w<b):=aG (by rw[Ag];exact δ.blk.lt);clear Ag Ac Af;go_wp2;go_loopw [8,16] (fun ov Am wr=>∃k:Nat,k<=r/\Am=(k:aV)/\Hid (GrW (aD P M Mq) (aF P M) gen w b a w wr ov order k)/\Hid (iC w wr P M mv n gv)) (fun _ Am _=>r-(intOf Am).toNat)
 .exact⟨0,aZ5 _,rfl,At,τ⟩
 .
  clear At τ Bl δ;obtain⟨k,hk,rfl,L,π⟩:=hrel;by_cases Bc:k<r
  .obtain⟨Dg,x,rfl,Cr,_,Ci⟩:=(Bu.below L.bel zr).elt (k:=k) (by rw[cV,<-ψ.out];exact Bc);have Z:k<order:=ψ.out▸Bc;obtain⟨D,μ⟩:=xE (order k 0);have Cz:x=(D:Int):=by rw[<-Ci.out,oV Z,μ]
   have Cy:D<n:=Bt.out D (by rw[μ,aZ4,aZ3 Z];exact aY6 Z);have Aw:Hid (order.take (k+1)=order.take k++[D]):=aG (by rw[List.take_add_one,aZ3 Z,μ,aZ4,aZ3 Z];rfl);subst Cz;obtain⟨Ck,Cl,Cm,Co,c4,_,_,_,_,_⟩:=π.blk.five;clear μ Z;go_wp2_with fail;apply(J5 wr P M n D mv gv gen (Ce.below L.bel zr) Ca Cy (oA o.out)).mono;rintro e w2⟨g,rfl,v,d,Ae⟩;rw[oE,<-o.out];have J:=zh Ae;have Bo:=zh v;have Cj:=zh d;have ρ:=zh (π.on Ae);clear Ae v d Cr Ck Cl Cm Co c4;obtain⟨R,pl,S,rv,pv,hI,s,u,t,I,O,c,y⟩:=L.inv;obtain⟨F,G,rfl⟩:=I.form';have Ct:wr<=g:=Bo.out;have Ah:b<wr.heap.size:=s.lt;have Ad:w.heap.size<wr.heap.size:=Nat.lt_trans z.out Ah;have ι:S<=k:=aZ6 hI.grp.sub.length_le (by rw[aY3];exact Nat.min_le_left _ _);have Cd:=zh ι;have Aq:=zh hI;have Dc:=zh Ah;have Bv:=zh (I.below J zr);have Bn:Hid (∀Ao,Below w w2 Ao->GF Ao a P M Mq):=aG fun Ao h=>Bm.below (L.bel.trans ((J.mono (Nat.le_of_lt Ad)).trans h)) zr;have De:Hid (∀g,(Value.slice F (zl S).length G).ownBlock=some g->g<wr.heap.size):=aG fun g h=>(I.lt h).2;have p:Hid (∀g,(Value.slice F (zl S).length G).ownBlock=some g->g≠b/\g≠w.heap.size):=aG y;have Av:Hid (wr.heap.size<=w2.heap.size):=aG J.size;go_wp2_with fail
   refine(VH w2 (fun A=>(Value.slice F (zl S).length G).ownBlock=some A\/A=w.heap.size) w a b g m ?_ P M Mq rv pv R pl (iL gen D) Bn (s.belowS J) (Nat.le_of_lt z) om om
    ((u.names (Y:=fun A=>A=b\/A=g\/pv.ownBlock=some A\/(Value.slice F (zl S).length G).ownBlock=some A\/A=w.heap.size) fun A B C=>by
     rcases C with h|h|h|h
     .exact .inl h
     .omega
     .exact .inr (.inl h)
     .exact .inr (.inr h)).below J.out) ?_ (t.below J.out zr) ?_ Cj.out (by rw[oE,o.out]) Ba l.out (CD l.out χ.out D) (o.out▸hI.bas) (by rw[hI.len];omega)).mono ?_
   .intro A h;rcases h with h|h
    .have B:=(I.lt h).2;exact⟨oA Av.out,(y A h).1,om⟩
    .subst h;exact⟨oA Av.out,fun e=>oA z.out,om⟩
   .intro A h C;have B:=(u.lt h).2;rcases C with C|C|C|C
    .exact O A h (.inl C)
    .omega
    .exact O A h (.inr (.inl C))
    .exact O A h (.inr (.inr C))
   .intro A h;have B:=(t.lt h).2;exact⟨(c A h).1,om,(c A h).2⟩
   rintro e E⟨Dl,rfl,X,Cs⟩;have Dd:=zh X;have φ:=zh (X.oi Bv (fun g h=>.inl h));have σ:Hid (iC w E P M mv n gv):=aG ⟨X.blk ρ.blk (.inr rfl),ρ.bel.trans X.bel⟩;have f:Hid (Below w w E):=aG (L.bel.trans ((J.mono (Nat.le_of_lt Ad)).trans X.bel));have Cb:=zh O;have Bz:=zh c;clear hI s u t I O c y X ι Ct Ah Ad π ρ;rcases Cs with⟨rfl,Bi,U,V,W⟩|⟨rfl,ν,Bj,An,Bb,Bd,U,V,W,Bh,Bg⟩
   .have Cc : Hid (GrW (aD P M Mq) (aF P M) gen w b a w E (.slice F (zl S).length G) order (k + 1)) := aG ⟨⟨R, pl, S, rv, pv, (by rw [Aw.out]; exact Aq.skip l χ Bi), U, (V.names fun A _ C => by
     rcases C with h|h|h|h
     .exact .inl h
     .exact .inr (.inr (.inl h))
     .exact .inr (.inr (.inr (.inl h)))
     .exact .inr (.inr (.inr (.inr h)))),W,φ.out,Cb.out,Bz.out,p.out⟩,f.out⟩
    clear Bi U V W;go_wp2;exact⟨⟨k+1,om,pC,Cc,σ⟩,oI⟩
   .have Au : Hid (GrI (aD P M Mq) (aF P M) gen (R ++ [bN (aD P M Mq) ((aD P M Mq).inv (cF (aD P M Mq) R pl (fun j => (iL gen D).getD j 0) R ν)) (dJ (aD P M Mq) R pl (iL gen D) R)]) (pl ++ [(ν : Int)]) (order.take (k + 1)) (S ++ [D])) := aG (by
     rw[Aw.out];refine Aq.take l.out χ.out (o.out▸Bb) Bd (by rw[gL,iG,oE]) fun j Cu=>?_;rw[jD l.out,dJ,aK (by rw[oE];exact Cu)])
    have N := aH E (.cells #[.int .i64 (D : Int)] 3);have Br := zh (Blk.new E 3 [.int .i64 (D : Int)]);have Bk := zh (U.belowS N);have Bx := zh (W.below N zr);have q := zh (φ.below N zr);have ζ := zh ((V.names (Y := fun A => (A = b \/ An.ownBlock = some A \/ (Value.slice F (zl S).length G).ownBlock = some A \/ A = w.heap.size) \/ E.heap.size <= A) fun A B C => by
     rcases C with(h|h|h|h)|h
     .exact .inl h
     .exact .inr (.inr (.inl h))
     .exact .inr (.inr (.inr (.inl h)))
     .exact .inr (.inr (.inr (.inr h)))
     .omega).below N)
    have Ap:=zh (σ.on N);have ε:=zh (f.trans (N.mono f.size));have K:=zh Bh;have T:=zh Bg;have Bq:Hid ((∀A,Bj.ownBlock=some A->A<E.heap.size)/\(∀A,An.ownBlock=some A->A<E.heap.size)/\b<E/\w.heap.size<=E.heap.size/\w.heap.size<b):=aG ⟨fun g h=>(V.lt h).2,fun g h=>(W.lt h).2,U.lt,f.size,z.out⟩;have ι:=Cd.out;obtain⟨Aa,Ay⟩:=xE (R++[bN (aD P M Mq) ((aD P M Mq).inv (cF (aD P M Mq) R pl (fun j=>(iL gen D).getD j 0) R ν)) (dJ (aD P M Mq) R pl (iL gen D) R)]);rw[<-Ay] at Au ζ;have ω:=zh (cV S);rw[ω.out] at q ζ T K p|-;obtain⟨H,Ak⟩:=xE S.length;have As:=zh Ak;rw[<-Ak] at q ζ T K p ι|-;clear N U V W Bh Bg Bd Bb Ay Ak φ σ f;go_wp2_with (
     at_builtin;refine dP rfl _ _ rfl w (.slice F H G) (zl S) rfl q.out E 1 (D:Int) rfl (Br.cell 0) (oB ω.out As.out) ε.size ?_;intro v9 w9 κ Az Al;obtain⟨η,ξ,rfl⟩:=κ.form';rw[aZ1,aZ2,ω.out,<-As.out] at κ Al|-;have Bs:=zh κ;have Q:=zh Az;have Cf:=zh Al;clear κ Az Al)
    refine⟨⟨k+1,om,pC,aG ?_,aG ?_⟩,oI⟩
    .obtain⟨Da,Db,Dh,Di,Dj⟩:=Bq.out;have Cx:(E.alloc (.cells #[D] 3)).heap.size=E.heap.size+1:=by simp
     have θ:∀A,(Value.slice η (H+1) ξ).ownBlock=some A->(Value.slice F H G).ownBlock=some A\/E.heap.size<=A:=fun A h=>by
      rcases Cf.out with e|e
      .have Ab:(Value.slice η (H+1) ξ).ownBlock=(Value.slice F H G).ownBlock:=e;exact .inl (by rw[<-Ab];exact h)
      .have Ab:(Value.slice η (H+1) ξ).ownBlock=some (E.alloc (.cells #[D] 3)).heap.size:=e;rw[Ab,Cx] at h;have:=aZ0 h;exact .inr om
     have Ar:∀A,(Value.slice F H G).ownBlock=some A->A≠b/\A≠w.heap.size:=p.out;have Cq:∀A,(Value.slice η (H+1) ξ).ownBlock=some A->A≠b/\A≠w.heap.size:=fun A h=>by
      rcases θ A h with B|B
      .exact Ar A B
      .exact⟨om,om⟩
     refine⟨⟨Aa,pl++[(ν:Int)],S++[D],Bj,An,Au.out,Bk.grown Q (fun e=>(Ar b e.symm).1 rfl),?_,Bx.grown Q (fun A h e=>(T.out A h).2.2 (.inl e)),by rw[I1];exact Bs.out,?_,?_,Cq⟩,ε.grown Q ε.size (fun A h=>(q.lt h).1)⟩
     .refine(ζ.grown Q (fun A e=>⟨fun h=>K.out A h (.inr (.inr (.inr (.inl e)))),.inl (.inr (.inr (.inl e)))⟩)).names fun A _ h=>?_;rcases h with h|h|h|h
      .exact .inl (.inl h)
      .exact .inl (.inr (.inl h))
      .rcases θ A h with B|B
       .exact .inl (.inr (.inr (.inl B)))
       .exact .inr B
      .exact .inl (.inr (.inr (.inr h)))
     .intro A h d;have Cp:=Da A h;rcases d with B|B|B|B
      .exact K.out A h (.inl B)
      .exact K.out A h (.inr (.inr (.inl B)))
      .rcases θ A B with C|C
       .exact K.out A h (.inr (.inr (.inr (.inl C))))
       .omega
      .exact K.out A h (.inr (.inr (.inr (.inr B))))
     .intro A h;have Cp:=Db A h;refine⟨(T.out A h).1,fun d=>?_⟩;rcases d with B|B
      .rcases θ A B with C|C
       .exact(T.out A h).2.2 (.inl C)
       .omega
      .exact(T.out A h).2.2 (.inr B)
    .exact⟨Ap.blk.grown Q (fun e=>(p _ e.symm).2 rfl),Ap.bel.grown Q ε.size (fun A h=>(q.lt h).1)⟩
  .obtain rfl:r=k:=om;obtain⟨R,pl,S,rv,pv,hI,s,u,t,I,O,c,y⟩:=L.inv;have Bw:=zh I;have Bp:Hid (GrP (aD P M Mq) (aF P M) gen order S):=aG (by have:=hI.grp;rwa[ψ.out,List.take_length] at this);clear hI s u t I O c y;go_wp2;go_ret;exact⟨S,Bp.out,_,rfl,Bw.out,L.bel⟩
theorem kW.mk' {w0 A C : World} {v y : Value} {l t : LL} (Q : OM w0.heap.size (fun g => g < w0.heap.size) A y t) (O : OM A.heap.size (fun g => g < A.heap.size) C v l) (L : w0.heap.size <= A.heap.size) (E : Below A.heap.size A C) :
   kW w0.heap.size (fun g=>g<w0.heap.size) C v l y t:=by
 obtain⟨R,B⟩:=Q;obtain⟨us,I⟩:=O;refine⟨us,R,?_,?_⟩
 . have M : pP w0.heap.size (fun g => g < A.heap.size) C v us l := by
     obtain⟨G,H,hi,P⟩:=I;refine⟨⟨G.1,?_⟩,fun i F=>⟨(H i F).1.mono L,(H i F).2⟩,hi,P⟩;rcases G.2 with hn|⟨g,J,K,rfl,E,N,rest⟩
     . exact .inl hn
     . exact .inr ⟨g,J,K,rfl,by omega,N,rest⟩
   exact M.xs fun g _ h=>h.elim (fun h=>by omega) (fun h=>(B.lt h).2)
 . exact(B.keep fun g D=>E.block g (B.lt D).2).xs fun g D h=>h.elim id (fun h=>by have:=(I.lt h).1;have:=(B.lt D).2;omega)
theorem KF(w:Wo)(P M:Int)(n:Nat)(mv rv:Va)(Mq:LI)(rows J:LL)(o:SI w mv Mq)(ε:SS w rv rows)(T:fB P M Mq n rows=0)(O:rows=n)(p:0<n)(hn1:n<=64)
 (j:Rows (aF P M) (n+n) J)(U:lfM n J=rows)(δ:rgM n J=EW n n)(m:(aJ (aD P M Mq) J n).2.length=n):
 Calls prog 135 #[.agg #[P,M,mv],.agg #[n,rv]] w (wW w n (rgM n (aJ (aD P M Mq) J n).1)):=by
 have μ:=zh o;have I:=zh ε;clear o ε;obtain⟨χ,_,_,_,hR⟩:=fM T;rw[aZ8] at hR;have Ag:=zh hR;have Z:=zh j;have κ:=zh U;have ξ:=zh δ;have ι:=zh m;have θ:=zh T;have b:Hid (J=n):=aG (by rw[<-O,<-U,wH]);clear T hR χ j U δ m;obtain⟨f,ζ,rfl,_⟩:=I.out;rw[O] at I|-;have Q:=zh O;clear O;obtain⟨w1,E,hq,ω⟩:=FMQ.mk' w P M mv n (.slice f n ζ);have A:=zh hq;have X:=zh E;clear hq E;go_enter func135,ntmps135;go_wp2_with fail;rw[X.out];clear X;have c0:=A.fm.fb.c0;have c1:=A.fm.fb.c1;have c2:=A.fm.fb.c2;have d0:=A.fm.d0;have d1:=A.fm.d1;go_wp2_with fail;apply(yJ w w1 P M n _ mv _ Mq rows A.fm.fb.bel ω μ I θ).mono;rintro e w2⟨a,rfl,N,k⟩;have Y:=zh N;have C:=zh (A.on k);clear N k c0 c1 c2 d0 d1 A;have d0:=C.fm.d0;have d1:=C.fm.d1;go_wp2_with fail;apply(XN w2 n om).mono;rintro e η⟨gy,rfl,r,R⟩;have ν:=zh r;have W:=zh R;have H:=zh (C.on R);clear r R d0 d1;have d0:=H.fm.d0;have d1:=H.fm.d1;go_upto_region 7 with fail;refine tb 13 d0 d1 fun D=>?_;refine tq 0 ?_;refine tq 1 ?_;refine tq 2 ?_;refine tq 4 ?_;refine tq 5 ?_;refine tq 6 ?_;try simp only[tz]
 refine tn 3 fun K hK=>?_;go_simp;apply(C9 _ _ rows (I.below (H.fm.fb.bel.trans ((aI η).mono H.fm.fb.bel.size)) zr) (oA Q.out)).mono;rintro e Ad⟨u,rfl,V,l⟩;have F:=zh (aC (aI η) l);have c:=zh (kW.mk' ν V W.size F);obtain⟨g4,π,rfl,_,_⟩:=V.formP (Q.out▸p);rw[Q.out] at c|-;have h:=aE F.out d0;have E:=aE F.out d1;clear l V;refine hK.out _ _ (⟨h,E⟩) ?_;clear hK K D;intro D;try simp only[tz]
 refine tn 7 fun K hK=>?_;go_simp;refine(SG w2 Ad a P M n n (n+n) n g4 π gy n Mq J Y (by rw[κ.out,ξ.out];exact c.out) b p (aC W F) Z zr om om om).mono ?_;rintro e Ae⟨Ap,dd,rfl,z,s,S⟩;have d:=zh z;obtain⟨Ah,Aq,rfl⟩:=s.form';have Af:=zh S;rw[ι.out] at d|-;have B:Hid (FMQ w Ae P M mv n (.slice f n ζ)):=aG (C.on S);have ρ:=B.fm.d0;have σ:=B.fm.d1;clear z s S;refine hK.out _ _ (⟨ρ,σ⟩) ?_;clear hK K D;intro D;try simp only[tz]
 refine tq 8 ?_;refine tq 9 ?_;refine tq 10 ?_;refine tq 11 ?_;try simp only[tz]
 refine tn 12 fun K hK=>?_;go_simp;refine hK.out _ _ D fun _=>?_;refine tw ?_;try simp only[tz]
 clear D;clear d0 d1 h E;have Ak:=B.q.lt;obtain⟨An,Ao,Ai,Aj⟩:=B.q.two;go_wp2_with fail;obtain⟨Ar,Aa,G⟩:=sQ (x:=(n:aV)) (y:=.slice gy n n) B.q;rw[Aa];have Ab:=G.c0;have Ac:=G.c1;refine bodyPost_ret (v:=.tuple #[.agg #[n,.slice gy n n],z0]) (by simp[results,results135,go_sem,Ab,Ac]) rfl ?_;have ψ:=C.fm.fb.bel.size;have Am:=C.q.lt;have t:=qG (iJ Y.fld.1 Mq) Z.out n (show aJ (aD P M Mq) J n=((aJ (aD P M Mq) J n).1,(aJ (aD P M Mq) J n).2) from rfl);have Al:=aM P M;have φ:=(d.symm.om.os (fun i hi=>by rw[rX] at hi;have:=PM (L:=n) (t.1 i hi) om;exact⟨om,this.2⟩)).sep (fun g N=>.inl N) (by rw[rX,t.2.1,b.out];omega);exact⟨_,rfl,(φ.grown G.gr (by rintro g e;cases e;omega)).mono ψ,G.below B.fm.fb.bel B.fm.fb.bel.size om⟩
structure nE(P M:Int)(Mq:LI)(n:Nat)(gen:LL)(p:LI):Prop where
 err:fE P M Mq (n:Int) gen=0
 fld:cZ P M Mq
 n1:1<=n
 n64:n<=64
 kn:gen<=n
 rr:gT (aD P M Mq) (aF P M) n gen p
 mat:fB P M Mq (n:Int) gen=0
theorem ff{O:aQ}{q:Int}{n:Nat}{A:LL}{p:LI}(hA:gT O q n A p):A<=n:=by
 have h:∀i,i<A.length->i<=pvt p i:=by
  intro i
  induction i with
  |zero=>intro _;exact aZ5 _
  |succ i ih=>intro hi;have B:=ih om;have C:=hA.inc i (i+1) om hi;omega
 rcases Nat.eq_zero_or_pos A with e|e
 .omega
 .have B:=h (A.length-1) om;have C:=hA.lt (A.length-1) om;omega
theorem nE.mk'{P M:Int}{Mq:LI}{n:Nat}{gen:LL}(h:fE P M Mq (n:Int) gen=0):nE P M Mq n gen (oS (aD P M Mq) gen n):=by obtain⟨A,D,E,F,hR,C⟩:=fP h;rw[aZ8] at hR C;have hO:=dR A;have B:=(cI hO hR).1;rw[C] at B;have hk:=ff B;exact⟨h,A,om,om,hk,B,rS A om om hR⟩
theorem nE.O{P M:Int}{Mq:LI}{n:Nat}{gen:LL}{p:LI}(h:nE P M Mq n gen p):(aD P M Mq).Fld (aF P M):=dR h.fld
theorem nE.q{P M:Int}{Mq:LI}{n:Nat}{gen:LL}{p:LI}(h:nE P M Mq n gen p):jS (aF P M) gen:=h.rr.rows.r (oA h.O.lt.pos)
def LY(n:Nat)(S:List Nat):Prop:=UZ n (zl S)
theorem LY.lt{n:Nat}{S:List Nat}(h:LY n S){i:Nat}(hi:i∈S):i<n:=by obtain⟨k,hk,rfl⟩:=eI.1 hi;have:=(h k (by rw[cV];exact hk)).2.1;rw[oV hk,aZ4,aZ3 hk] at this;exact Int.ofNat_lt.1 this
theorem LY.len{n:Nat}{S:List Nat}(h:LY n S):S<=n:=by
 have A:∀i,i<S.length->i<=S i 0:=by
  intro i
  induction i with
  |zero=>intro _;exact aZ5 _
  |succ i ih=>intro hi;have B:=ih om;have A:=(h (i+1) (by rw[cV];exact hi)).2.2 om;rw[Nat.add_sub_cancel,oV om,oV hi] at A;omega
 rcases Nat.eq_zero_or_pos S with e|e
 .omega
 .have C:=A (S.length-1) om;have D:=h.lt (i:=S (S.length-1) 0) (by rw[aZ4,aZ3 om];exact aY6 _);omega
section
variable {w:Wo} {P M:Int} {n:Nat} {mv gv sv:Va} {Mq:LI} {gen:LL} {p:LI} {S:List Nat}
theorem WY(o:SI w mv Mq)(l:SS w gv gen)(t:SI w sv (zl S))(U:nE P M Mq n gen p)(V:LY n S):
 Calls prog 251 #[.agg #[P,M,mv,n,gv],sv] w (fun e w'=>∃S',GrP (aD P M Mq) (aF P M) gen S S'/\e=.returned (.tuple #[.int .i64 (S'.length:Nat),z0])/\Below w w w'):=by
 have J:=zh (iC.mk' w P M mv n gv);have b:=zh o;have f:=zh l;have K:=zh t;have A:=zh U;have c:=zh V;obtain⟨L,sc,rfl,_⟩:=t;have hn1:=U.n64;have ζ:=V.len;rw[cV] at K|-;obtain⟨s,X⟩:=xE S.length;have d:=zh X;rw[<-X] at K ζ|-;clear o l U V X;go_enter func251,ntmps251;go_upto_region 1 with fail;generalize w.alloc (.cells #[P,M,mv,n,gv] 27)=w0 at*;obtain⟨C,D,E,F,G,_,_,_,_,_⟩:=J.blk.five;go_wp2_with fail;refine(J9 w0 P M n mv gv Mq gen (b.below J.bel zr) A.fld (fun w' ε=>by have B:=aC J.bel ε;have:=kG w' P M n mv gv Mq gen (b.below B zr) (f.below B zr);rwa[A.out.err] at this)).mono ?_;rintro e w1⟨a,rfl,v,h⟩;have Z:=zh v.out;have N:=zh (J.on h);clear v h C D E F G;obtain⟨C,D,E,F,G,_,_,_,_,_⟩:=N.blk.five;go_upto_region 3 with fail;have x:=Blk.new w1 22 [.slice L s sc];have B:=aH w1 (.cells #[.slice L s sc] 22);have H:=zh (N.on B);have Q:=zh (Z.on B);have R:=zh (K.below H.bel zr);have T:Hid (SS (w1.alloc (.cells #[.slice L s sc] 22)) (.slice w1 1 1) [zl S]):=aG ⟨_,1,rfl,by simp,by simp,fun k hk=>by
  obtain rfl:k=0:=by simp at hk;omega
  exact⟨_,_,rfl,by rw[zB];exact x.cell 0,R.out⟩⟩
 clear x B N Z;obtain⟨w2,Y⟩:=xE (w1.alloc (.cells #[.slice L s sc] 22));rw[<-Y] at H Q R T;have g:=zh Y;clear Y;go_wp2_with fail;rw[<-g.out];refine(W1 w2 P M n mv gv _ (zl S) T c (by rw[cV,<-d.out];omega) om).mono ?_;rintro e η⟨rfl,W⟩;have I:=zh (H.on W);have z:=zh (Q.on W);clear W H Q R T g C D E F G;obtain⟨C,D,E,F,G,_,_,_,_,_⟩:=I.blk.five;go_wp2_with fail;apply(AL η a P M n mv gv _ Mq gen S z (f.below I.bel zr) (fun k hk=>(A.rr.rows k hk).1) (K.below I.bel zr) (fun i hi=>c.lt hi) A.O A.q (oA A.kn) (oA d.out)).mono;rintro e κ⟨S',m,u,rfl,r,j⟩;obtain⟨θ,ι,rfl⟩:=r.form';rw[cV];have δ:=zh m;have y:=zh (aC I.bel j);clear m r j C D E F G;go_wp2;go_ret2;exact⟨S',δ.out,rfl,y.out⟩
structure GL(O:aQ)(n:Nat)(gen:LL)(S:List Nat):Prop where
 len:S.length=gen.length
 ris:LY n S
 gen:∀i,i<n->aZ O (dY gen S) fun t=>(iL gen i).getD t 0
theorem jh(U:SI w mv Mq)(R:SS w gv gen)(V:SI w sv (zl S))(N:nE P M Mq n gen p)(E:GL (aD P M Mq) n gen S):
 Calls prog 133 #[.agg #[P,M,mv,n,gv],sv] w (fun e w'=>e=.returned (.tuple #[.bool true,z0])/\Below w w w'):=by
 have A:=zh (iC.mk' w P M mv n gv);have a:=zh U;have G:=zh R;have D:=zh V;have C:=zh N;have B:=zh E;obtain⟨c,sc,rfl,_⟩:=V;obtain⟨W,b,rfl,_⟩:=R;rw[cV,E.len] at D|-;clear U N E;obtain⟨k,hk⟩:=xE gen.length;have Y:=zh hk;rw[<-hk] at G D A|-;clear hk;go_enter func133,ntmps133;go_upto_region 1 with fail;generalize w.alloc (.cells #[P,M,mv,n,.slice W k b] 27)=w0 at*;obtain⟨H,I,J,K,L,_,_,_,_,_⟩:=A.blk.five;go_wp2_with fail;apply(WY (a.below A.bel zr) (G.below A.bel zr) (D.below A.bel zr) C B.ris).mono;rintro e w1⟨S',T,rfl,Q⟩;have F:=zh (A.on Q);have X:Hid (S'=k):=aG (by rw[T.all C.out.O C.out.rr B.out.len B.out.gen (fun i hi=>hi),B.out.len,Y.out]);rw[X.out];have Z:Hid (((k:Nat):Int)==(k:Int)):=aG sM;clear T Q H I J K L;obtain⟨H,I,J,K,L,_,_,_,_,_⟩:=F.blk.five;have d:(((k:Nat):Int)==(k:Int))=true:=Z.out;go_wp2;go_ret2;exact⟨by simp,F.bel⟩
end
structure ICQ(w w1:Wo)(P M:Int)(mv:Va)(n:Int)(gv:Va):Prop where
 cb:iC w w1 P M mv n gv
 q:Blk w1 (w.heap.size+1) 74 [.int .i64 0,.slice none 0 0]
theorem ICQ.on{w w1 w2:Wo}{P M:Int}{mv:Va}{n:Int}{gv:Va}(h:ICQ w w1 P M mv n gv)(A:Below w1 w1 w2):ICQ w w2 P M mv n gv:=⟨h.cb.on A,h.q.belowS A⟩
theorem ICQ.mk'(w:Wo)(P M:Int)(mv:Va)(n:Int)(gv:Va):∃w1,((w.alloc (.cells #[P,M,mv,n,gv] 27)).alloc (.cells #[z0,()] 74))=w1/\
 ICQ w w1 P M mv n gv/\w1.heap.size=w.heap.size+1+1:=by
 refine⟨_,rfl,⟨(iC.mk' w P M mv n gv).on (aH _ _),?_⟩,?_⟩
 .have:=Blk.new (w.alloc (.cells #[P,M,mv,n,gv] 27)) 74 [.int .i64 0,.slice none 0 0];rw[World.size_alloc] at this;exact this
 .rw[World.size_alloc,World.size_alloc]
section
variable {O:aQ} {q:Int} (hO:O.Fld q)
include hO
theorem fz{gen:LL}{S:List Nat}(B:S.length=gen.length)(hq:jS q gen):lfM gen (fC gen S)=nF gen (zl S):=by
 refine oH (by rw[wH,fD,nR]) fun i hi=>?_;rw[wH,fD] at hi;have E:=(qC hO hq S i (by rw[fD];exact hi)).1;rw[yE,show(nF gen (zl S)).getD i []=qQ (gen i []) (zl S) by unfold nF;simp[List.getD,hi]];refine eK (by rw[aY3,E,kP,cV,B];omega) fun j F A=>?_;rw[kP,cV,B] at A;have C:((fC gen S).getD i []).getD j 0=ent gen i (S j 0):=by have:=rF (S:=S) hi (j:=j) om;rw[iP A] at this;exact this
 have D:(qQ (gen i []) (zl S)).getD j 0=ent gen i (S j 0):=by rw[qQ,aK (by rw[cV,B];exact A),oV om,aZ8];rfl
 rw[List.getElem_take];rw[aZ4,aZ3 (by rw[E];omega)] at C;rw[aZ4,aZ3 (by rw[kP,cV,B];exact A)] at D;exact C.trans D.symm
theorem go{gen:LL}{S:List Nat}(hq:jS q gen):rgM gen (fC gen S)=EW gen gen.length:=by
 refine oH (by rw[rX,fD,uG]) fun i hi=>?_;rw[rX,fD] at hi;have D:=(qC hO hq S i (by rw[fD];exact hi)).1;rw[vL,I0 _ _ _ hi];refine eK (by rw[List.length_drop,D,rB];omega) fun j E A=>?_;rw[rB] at A;have B:((fC gen S).getD i []).getD (gen.length+j) 0=if i=j then 1 else 0:=by
  have:=rF (S:=S) hi (j:=gen.length+j) om;rw[iN om] at this;refine this.trans ?_;by_cases e:i=j
  .rw[iP e,iP om]
  .rw[iN e,iN om]
 have C:=ZC (n:=gen.length) (p:=i) A;rw[List.getElem_drop];rw[aZ4,aZ3 (by rw[D];omega)] at B;rw[aZ4,aZ3 (by rw[rB];exact A)] at C;exact B.trans C.symm
theorem NC{n:Nat}{C rows:LL}(hR:Rows q n rows)(A:Rows q rows C):cH O (mmL O C rows n) rows:=fun i hi=>by rw[yI] at hi;exact⟨fun k=>ent C i k,fun j=>OX hO hR A hi j⟩
omit hO in
theorem et{L N:Nat}{J:LL}(h:Rows q N J):Rows q (N-L) (rgM L J):=fun i hi=>by rw[rX] at hi;rw[vL];refine⟨by rw[List.length_drop,(h i hi).1],fun k=>?_⟩;rw[kH];exact(h i hi).2 (L+k)
end
theorem jd(L:Nat)(J:LL)(l j:Nat):ent (rgM L J) l j=ent J l (L+j):=by unfold ent;rw[vL,kH]
section
variable {w:Wo} {P M:Int} {n:Nat} {mv gv sv:Va} {Mq:LI} {gen:LL} {p:LI} {S:List Nat}
theorem bg(K:SI w mv Mq)(c:SS w gv gen)(ζ:SI w sv (zl S))(A:nE P M Mq n gen p)(B:GL (aD P M Mq) n gen S)(Au:0<gen.length):
 Calls prog 80 #[.agg #[P,M,mv,n,gv],sv] w (fun e w'=>∃G,ED (aD P M Mq) n gen S G/\(Rows (aF P M) n G/\cH (aD P M Mq) G gen)/\wW w n G e w'):=by
 have hO:=A.O;have z:=qC hO A.q S;have t:=qG hO.lt z gen (show aJ (aD P M Mq) (fC gen S) gen.length=((aJ (aD P M Mq) (fC gen S) gen).1,(aJ (aD P M Mq) (fC gen S) gen).2) from rfl);have Ax:=A.n64;have Av:=A.kn;have Y:Rows (aF P M) gen (rgM gen (aJ (aD P M Mq) (fC gen S) gen).1):=by have:=et (L:=gen.length) t.1;rwa[Nat.add_sub_cancel] at this
 have X:(rgM gen (aJ (aD P M Mq) (fC gen S) gen).1).length=gen.length:=by rw[rX,t.2.1,fD]
 obtain⟨T,hT⟩:=xE (rgM gen (aJ (aD P M Mq) (fC gen S) gen).1);have g:Hid (ED (aD P M Mq) n gen S (mmL (aD P M Mq) T gen n)/\(Rows (aF P M) n (mmL (aD P M Mq) T gen n)/\cH (aD P M Mq) (mmL (aD P M Mq) T gen n) gen)):=aG ⟨az hO A.rr B.len B.gen (by rw[yI,hT,X]) (fun l Aw j=>by rw[OX hO A.rr.rows (by rw[hT];exact Y) (by rw[hT,X];exact Aw)];congr 1;funext m;rw[hT,jd]),XM hO,NC hO A.rr.rows (by rw[hT];exact Y)⟩;have N:Hid (∀w',Below w w w'->Calls prog 134 #[.agg #[P,M,mv],.agg #[n,gv],sv] w' (wW w' gen (nF gen (zl S)))):=aG fun w' C=>by
  have:=KE w' P M n mv gv sv Mq (zl S) gen (K.below C zr) (c.below C zr) (ζ.below C zr) A.mat (fun k hk=>⟨(B.ris k hk).1,(B.ris k hk).2.1⟩) (by rw[cV,B.len];omega)
  rwa[cV,B.len] at this
 have h:Hid (∀w' u,Below w w w'->SS w' u (nF gen (zl S))->Calls prog 135 #[.agg #[P,M,mv],.agg #[.int .i64 (gen.length:Int),u]] w' (wW w' gen T)):=aG fun w' u C η=>by
  have:=KF w' P M gen mv u Mq (nF gen (zl S)) (fC gen S) (K.below C zr) η (rS A.fld om (by rw[nR];omega) (by have:=QT (by have:=hO.lt.pos;omega) A.rr.rows (zl S);rwa[cV,B.len] at this)) (nR _ _) Au om z (fz hO B.len A.q) (go hO A.q) (JA hO A.rr B.len B.gen);rwa[<-hT] at this
 have i:Hid (∀w' u,Below w w w'->SS w' u T->Calls prog 136 #[.agg #[P,M,mv],.agg #[.int .i64 (gen.length:Int),u],.agg #[n,gv]] w' (wW w' n (mmL (aD P M Mq) T gen n))):=aG fun w' u C η=>bo w' P M n gen mv u gv Mq T gen (K.below C zr) η (c.below C zr) (rS A.fld om (by rw[hT,X];omega) (by rw[hT];exact Y)) A.mat rfl;have ω:Hid (∀w',Below w w w'->Calls prog 133 #[.agg #[P,M,mv,n,gv],sv] w' (fun e w2=>e=.returned (.tuple #[.bool true,z0])/\Below w'.heap.size w' w2)):=aG fun w' C=>jh (K.below C zr) (c.below C zr) (ζ.below C zr) A B;generalize hCL:nF gen (zl S)=Ar at N h;generalize hMM:mmL (aD P M Mq) T gen n=ξ at i g;clear t z Y X hT hO hCL hMM;obtain⟨Bm,sc,rfl,_⟩:=ζ;obtain⟨ν,Ag,rfl,_⟩:=c;clear K A;rw[cV,B.len] at N ω|-;generalize gen=k at*;clear B Av Ax;obtain⟨w1,D,hq,Bq⟩:=ICQ.mk' w P M mv n (.slice ν k Ag);have R:=zh hq;have ψ:=zh D;clear hq D;go_enter func80,ntmps80;go_upto_region 1 with fail;rw[ψ.out];clear ψ;obtain⟨c0,c1,E,F,H,_,_,_,_,_⟩:=R.cb.blk.five;go_wp2_with fail;apply(ω.out w1 R.cb.bel).mono;rintro e w2⟨rfl,Ak⟩;have o:=zh (R.on Ak);clear Ak R c0 c1 E F H;obtain⟨c0,c1,E,F,H,_,_,_,_,_⟩:=o.cb.blk.five;go_upto_region 7 with fail;obtain⟨Bf,Bp,D,I,Ah,Al⟩:=aR w2 74 [(n:aV),.slice ν k Ag];rw[D,I];have U:=zh (o.on Al);have f:=zh Ah;clear D I Ah Al o c0 c1 E F H;obtain⟨c0,c1,E,F,H,_,_,_,_,_⟩:=U.cb.blk.five;obtain⟨x0,x1,_,_⟩:=f.two;go_wp2_with fail;apply(N.out Bf U.cb.bel).mono;rintro e Bg⟨Br,rfl,θ,δ⟩;obtain⟨As,Bd,rfl,_⟩:=θ.out;have r:=zh θ.out;have Aa:=zh (U.on δ);have π:=zh (f.belowS δ);clear θ δ U f c0 c1 E F H x0 x1 N;obtain⟨μ,An⟩:=xE Ar.length;rw[<-An] at r|-;clear An;go_upto_region 8 with fail;obtain⟨Bh,g5,D,I,Ai,Z⟩:=aR Bg 74 [(k:aV),.slice As μ Bd];rw[D,I];have V:=zh (Aa.on Z);have ρ:=zh (π.belowS Z);have Ac:=zh (r.below Z zr);have φ:=zh Ai;clear D I Ai Z Aa π r;obtain⟨c0,c1,E,F,H,_,_,_,_,_⟩:=V.cb.blk.five;obtain⟨x0,x1,_,_⟩:=φ.two;go_wp2_with fail;apply(h.out Bh _ V.cb.bel Ac).mono;rintro e Bi⟨u6,rfl,ι,ε⟩;obtain⟨At,Be,rfl,_⟩:=ι.out;have s:=zh ι.out;have Ab:=zh (V.on ε);have σ:=zh (ρ.belowS ε);clear ι ε V ρ φ Ac c0 c1 E F H x0 x1 h;obtain⟨lt,Ap⟩:=xE T.length
 rw[<-Ap] at s|-;clear Ap;go_upto_region 11 with fail;obtain⟨Bj,g7,D,I,Aj,a⟩:=aR Bi 74 [(k:aV),.slice At lt Be];rw[D,I];have J:=zh (Ab.on a);have τ:=zh (σ.belowS a);have Ad:=zh (s.below a zr);have χ:=zh Aj;clear D I Aj a Ab σ s;obtain⟨c0,c1,E,F,H,_,_,_,_,_⟩:=J.cb.blk.five;obtain⟨x0,x1,_,_⟩:=χ.two;obtain⟨Bk,Bl,_,_⟩:=τ.two;go_wp2_with fail;apply(i.out Bj _ J.cb.bel Ad).mono;rintro e Bt⟨Bs,rfl,κ,Am⟩;obtain⟨Af,Aq,rfl,_⟩:=κ.out;have Ae:=zh κ;have W:=zh (J.on Am);have Az:=J.q.lt;have Ay:=J.cb.bel.size;clear κ Am τ χ Ad c0 c1 E F H x0 x1 Bk Bl i;obtain⟨d,Ao⟩:=xE ξ.length
 rw[<-Ao] at Ae|-;clear Ao;obtain⟨Bv,Bw,Bn,Bo⟩:=W.q.two;go_wp2_with fail;obtain⟨Bu,Ba,Q⟩:=sQ (x:=(n:aV)) (y:=.slice Af d Aq) W.q;rw[Ba];have Bb:=Q.c0;have Bc:=Q.c1;refine bodyPost_ret (v:=.tuple #[.agg #[n,.slice Af d Aq],z0]) (by simp[results,results80,go_sem,Bb,Bc]) rfl ?_;exact⟨ξ,g.1,g.2,_,rfl,(Ae.grown Q.gr (by rintro b e;cases e;exact Az)).mono Ay,Q.below W.cb.bel W.cb.bel.size om⟩
end
