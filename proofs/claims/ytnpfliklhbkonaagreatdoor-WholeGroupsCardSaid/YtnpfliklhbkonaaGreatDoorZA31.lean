/- Parts. -/
import Derived.Test.YtnpfliklhbkonaaGreatDoorZA28
set_option maxRecDepth 99999
set_option maxHeartbeats 0
namespace Go.Proofs.YtnpfliklhbkonaaGreatDoor
open Go.Proofs.Tryz
open Go.RowKit
theorem fp{B:Nat}{w v w9:Wo}{Φ:Wo->Prop}(h:Sep B w Φ)(A:Below w w v){g:Nat}(F:w<=g)(D:v.grownBy w9 (some g)):Sep B w9 Φ:=
 h.of (aZ6 A.size D.size) fun p E C=>(World.cell?_of_block (D.block p.block (aY1 C A.size) (by intro e;have:=aZ0 e;omega))).trans (A.cell C)
theorem OR(w:Wo)(P M:Int)(n:Nat)(mv rv:Va)(Mq:LI)(rows:LL)(F:SI w mv Mq)(d:SS w rv rows)(c:fB P M Mq n rows=0)(hn1:1<=n)(δ:n<=64):
 Calls prog 29 #[.agg #[P,M,mv],.agg #[n,rv]] w (iV w P M Mq n (bC (aD P M Mq) rows n) 0):=by
 have Q:=zh (fun(w':Wo) (I:Below w.heap.size w w')=>pW w' P M n mv rv Mq rows (F.below I zr) (d.below I zr) c);have T:=zh (fun(w':Wo) (g:OA) (θ t:Nat) (I:Below w.heap.size w w')=>V3 w' P M n mv g θ t Mq (F.below I zr));have j:=zh F.len';have l:=zh F.wfs;have i:Hid (zM n=0):=by show _=_;unfold zM;rw[iP om]
 unfold ic at Q;unfold UW at T;obtain⟨s,π,rfl,_⟩:=d;clear F c hn1 δ;generalize rows.length=r at*;generalize bC (aD P M Mq) rows n=C at*;obtain⟨w1,E,hq,Ab⟩:=FMC.mk' w P M mv n (.slice s r π);have A:=zh hq;have R:=zh E;clear hq E;go_enter func29,ntmps29;go_upto_region 1 with fail;rw[R.out];clear R;have c0:=A.fm.fb.c0;have c1:=A.fm.fb.c1;have c2:=A.fm.fb.c2;have d0:=A.fm.d0;have d1:=A.fm.d1;go_wp2_with fail;refine(Q.out w1 A.fm.fb.bel).mono ?_;rintro e w2 ⟨H,ρ,Ac,rfl,N,_,a⟩;obtain⟨k,hk⟩:=xE C.length
 rw[<-hk] at N|-;clear hk;have V:=zh (N.imp fun _ h=>h.1);have U:=zh (A.on a);clear N a c0 c1 c2 d0 d1;go_upto_region 2 with fail;obtain⟨O,Y,E,X,Z,J⟩:=aR w2 74 [(n:aV),.slice H k k];rw[E,X];have D:=zh (U.on J);have o:=zh (V.on J);have S:=zh Z;clear E X Z J V U;have d0:=D.fm.d0;go_wp2_with fail;refine(B8 _ n).mono ?_;rintro e Ae ⟨rfl,rfl⟩;rw[i.out];clear d0;have c0:=D.fm.fb.c0;have c1:=D.fm.fb.c1;have c2:=D.fm.fb.c2;have x0:O.cell? Y=some (n:aV):=S.cell 0;have x1:O.cell? (Y 1 none)=some (.slice H k k):=S.cell 1;go_wp2_with fail;refine(T.out O _ _ _ D.fm.fb.bel).mono ?_;rintro e Af ⟨Ad,rfl,L,K⟩;obtain⟨W,f,rfl⟩:=L.form';have G:=zh (D.on K);have p:=zh (o.on K);have m:=zh (L.sep j l);have ε:=A.fm.fb.bel.size;have ζ:=D.fm.fb.bel.size;have ω:=A.q.lt;have Aa:=D.q.lt;clear L K c0 c1 c2 x0 x1;obtain⟨Ah,Ai,Aj,Ak,Al,σ,τ,φ,χ,ψ⟩:=G.q.five;go_wp2_with fail;obtain⟨Ag,η,B⟩:=zL (x:=(P:aV)) (y:=(M:aV)) (z:=.slice W Mq.length f) (u:=(n:aV)) (v:=.slice H k k) G.q;rw[η];have ι:=B.c0;have κ:=B.c1;have μ:=B.c2;have ν:=B.c3;have ξ:=B.c4;refine bodyPost_ret (v:=.tuple #[.agg #[P,M,.slice W Mq.length f,n,.slice H k k],.int .i64 0]) (by simp[results,results29,go_sem,ι,κ,μ,ν,ξ]) rfl ?_;exact⟨_,_,rfl,((m.grown B.gr (by rintro b e;cases e;omega)).mono ζ).and ((p.grown B.gr (by rintro b e;cases e;omega)).mono ε),B.below G.fm.fb.bel G.fm.fb.bel.size om⟩
structure CCQ(w w1:Wo)(P M:Int)(mv:Va)(n:Int)(gv:Va):Prop where
 cb:iC w w1 P M mv n gv
 q:Blk w1 (w.heap.size+1) 27 [.int .i64 0,.int .i64 0,.slice none 0 0,.int .i64 0,.slice none 0 0]
theorem CCQ.on{w w1 w2:Wo}{P M:Int}{mv:Va}{n:Int}{gv:Va}(h:CCQ w w1 P M mv n gv)(A:Below w1 w1 w2):CCQ w w2 P M mv n gv:=⟨h.cb.on A,h.q.belowS A⟩
theorem CCQ.mk'(w:Wo)(P M:Int)(mv:Va)(n:Int)(gv:Va):∃w1,(w.alloc (.cells #[P,M,mv,n,gv] 27)).alloc (.cells #[z0,z0,(),z0,()] 27)=w1/\CCQ w w1 P M mv n gv:=by refine⟨_,rfl,(iC.mk' w P M mv n gv).on (aH _ _),?_⟩;have:=Blk.new (w.alloc (.cells #[P,M,mv,n,gv] 27)) 27 [.int .i64 0,.int .i64 0,.slice none 0 0,.int .i64 0,.slice none 0 0];rw[World.size_alloc] at this;exact this
theorem VQ(w:Wo)(P M:Int)(n:Nat)(mv gv:Va)(Mq:LI)(gen:LL)(h:SI w mv Mq)(T:SS w gv gen)(θ:fE P M Mq n gen=0):
 Calls prog 212 #[.agg #[P,M,mv,n,gv]] w (iV w P M Mq n (iT (aD P M Mq) gen n) 0):=by
 have ν:=zh (fun(w':Wo) (B:Below w.heap.size w w')=>kG w' P M n mv gv Mq gen (h.below B zr) (T.below B zr));rw[θ] at ν;have φ:fB P M Mq n gen=0:=by obtain⟨Ag,Bb,Bc,Ah,σ,U⟩:=fP θ;rw[aZ8] at σ;exact rS Ag om Ah σ
 have t:=zh (fun(w':Wo) (B:Below w.heap.size w w')=>M5 w' P M n mv gv Mq gen (h.below B zr) (T.below B zr) φ);have π:=zh (fun(w':Wo) (ψ:OA) (Al Af:Nat) (B:Below w.heap.size w w')=>V3 w' P M n mv ψ Al Af Mq (h.below B zr));have ω:=zh h.len';have Aa:=zh h.wfs;unfold wW at t;unfold UW at π;obtain⟨ε,η,rfl,_⟩:=T;generalize gen.length=gl at*;clear h θ φ;generalize iT (aD P M Mq) gen n=C at*;obtain⟨w1,S,hq⟩:=CCQ.mk' w P M mv n (.slice ε gl η);have a:=zh hq;have ξ:=zh S;clear hq S;go_enter func212,ntmps212;go_upto_region 1 with fail;rw[ξ.out];clear ξ;have c0:=a.cb.c0;have c1:=a.cb.c1;have c2:=a.cb.c2;have c3:=a.cb.c3;have c4:=a.cb.c4;go_wp2_with fail;refine(ν.out w1 a.cb.bel).mono ?_;rintro e w2 ⟨rfl,τ⟩;have R:=zh (a.on τ);clear τ c0 c1 c2 c3 c4;have c0:=R.cb.c0;have c1:=R.cb.c1;have c2:=R.cb.c2;have c3:=R.cb.c3;have c4:=R.cb.c4;have J:=zh c0;have L:=zh c1;have N:=zh c2;have O:=zh c3;have Q:=zh c4;obtain⟨k,hk⟩:=xE C.length
 have ζ:=zh hk;clear hk;go_upto_region 4 with fail;go_cut [5,6] from 14 to 20 (fun t5 Ar wc=>∃g G H,Ar=.int .i64 0/\t5=.pointer (some ⟨g,0,none⟩)/\w2.heap.size<=g/\Hid (Blk wc g 74 [(n:aV),.slice G k H])/\Hid (Sep w2.heap.size wc fun w9=>SS w9 (.slice G k H) C)/\Hid (Below w2.heap.size w2 wc))
 case first=>
  refine te 11 c0 c1 c2 c3 c4 fun D=>?_;have κ:=aI w2;generalize w2.drew=As at κ D|-;have A:=zh κ;clear c0 c1 c2 c3 c4;clear κ;refine tq 0 ?_;refine tq 1 ?_;refine tq 2 ?_;try simp only[tz]
  refine bY.two (i:=3) (j:=8) (oi:=?opa2) (oj:=?opb2) kr ?hoa2 ?hob2 (fun K hK=>?way12) (fun K hK=>?way22)
  case hoa2=>(conv=>lhs;simp only[tdg,tdh,tdi])
  case hob2=>(conv=>lhs;simp only[tdg,tdh,tdi])
  case way12=>
   go_simp;refine(B4 _ P M n mv ε gl η).mono ?_;rintro e Av ⟨rfl,B⟩;replace A:=zh (aC A B);clear B;refine hK.out _ _ (⟨cb A J,cb A L,cb A N,cb A O,cb A Q⟩) ?_;clear hK K D;intro D;try simp only[tz]
   refine bY.two (i:=4) (j:=8) (oi:=?opa4) (oj:=?opb4) kr ?hoa4 ?hob4 (fun K hK=>?way14) (fun K hK=>?way24)
   case hoa4=>(conv=>lhs;simp only[tdg,tdh,tdi])
   case hob4=>(conv=>lhs;simp only[tdg,tdh,tdi])
   case way14=>
    have Y:=A.size;go_simp;refine(t _ (aC R.cb.bel A)).mono ?_;rintro e Aw ⟨u,rfl,I,B⟩;obtain⟨G,H,rfl,_⟩:=I.out;rw[<-ζ.out] at I|-;have Ab:=zh (I.mono Y);replace A:=zh (aC A B);clear B I Y;refine hK.out _ _ (⟨cb A J,cb A L,cb A N,cb A O,cb A Q⟩) ?_;clear hK K D;intro D;try simp only[tz]
    refine tq 5 ?_;refine tq 6 ?_;refine tq 7 ?_;try simp only[tz]
    refine tp 8 fun K hK=>?_;go_simp;obtain⟨Ax,g,S,W,X,B⟩:=aR Aw 74 [.int .i64 0,.slice none 0 0];rw[S,W];have F:=zh X;have Z:w2.heap.size<=g:=(by have:=A.size;omega)
    have m:Hid (∀w9,World.grownBy Ax w9 (some g)->Sep w2.heap.size w9 fun w9=>SS w9 (.slice G k H) C):=aG (fun w9 T=>fp Ab B om T);replace A:=zh (aC A B);clear S W X B;refine hK.out _ _ (⟨cb A J,cb A L,cb A N,cb A O,cb A Q⟩) ?_;clear hK K D;intro D;try simp only[tz]
    refine tp 9 fun K hK=>?_;obtain⟨o,p,d,f⟩:=F.two;go_simp;obtain⟨Bn,U,E⟩:=sQ (x:=(n:aV)) (y:=.slice G k H) F.out;rw[U];have l:=zh (m _ E.gr);have V:=zh E.blk;replace A:=zh (E.below A A.size Z);clear o p d f U E F;refine hK.out _ _ (⟨cb A J,cb A L,cb A N,cb A O,cb A Q⟩) ?_;clear hK K D;intro D;try simp only[tz]
    refine tn 10 fun K hK=>?_;go_simp;refine hK.out _ _ D (fun r=>?_);clear hK K;clear r;refine tw ?_;try simp only[tz]
    clear D;go_wp2_with fail;go_meet;exact⟨g,G,H,rfl,rfl,Z,V,l,A⟩
   case way24=>
    go_simp;obtain⟨Bi,g,S,W,X,B⟩:=aR Av 74 [.int .i64 0,.slice none 0 0];rw[S,W];have F:=zh X;have Z:w2.heap.size<=g:=(by have:=A.size;omega)
    replace A:=zh (aC A B);clear S W X B;refine hK.out _ _ (⟨cb A J,cb A L,cb A N,cb A O,cb A Q⟩) ?_;clear hK K D;intro D;try simp only[tz]
    refine tp 4 fun K hK=>?_;have Y:=A.size;go_simp;refine(t _ (aC R.cb.bel A)).mono ?_;rintro e At ⟨u,rfl,I,B⟩;obtain⟨G,H,rfl,_⟩:=I.out;rw[<-ζ.out] at I|-;have s:=F.lt;have m:Hid (∀w9,World.grownBy At w9 (some g)->Sep w2.heap.size w9 fun w9=>SS w9 (.slice G k H) C):=aG (fun w9 T=>(I.grown T (by rintro b e;cases e;exact s)).mono Y);clear s;replace F:=zh (F.belowS B);replace A:=zh (aC A B);clear B I Y;refine hK.out _ _ (⟨cb A J,cb A L,cb A N,cb A O,cb A Q⟩) ?_;clear hK K D;intro D;try simp only[tz]
    refine tq 5 ?_;refine tq 6 ?_;refine tq 7 ?_;try simp only[tz]
    refine tp 9 fun K hK=>?_;obtain⟨o,p,d,f⟩:=F.two;go_simp;obtain⟨Bj,U,E⟩:=sQ (x:=(n:aV)) (y:=.slice G k H) F.out;rw[U];have l:=zh (m _ E.gr);have V:=zh E.blk;replace A:=zh (E.below A A.size Z);clear o p d f U E F;refine hK.out _ _ (⟨cb A J,cb A L,cb A N,cb A O,cb A Q⟩) ?_;clear hK K D;intro D;try simp only[tz]
    refine tn 10 fun K hK=>?_;go_simp;refine hK.out _ _ D (fun r=>?_);clear hK K;clear r;refine tw ?_;try simp only[tz]
    clear D;go_wp2_with fail;go_meet;exact⟨g,G,H,rfl,rfl,Z,V,l,A⟩
  case way22=>
   go_simp;obtain⟨Bk,g,S,W,X,B⟩:=aR As 74 [.int .i64 0,.slice none 0 0];rw[S,W];have F:=zh X;have Z:w2.heap.size<=g:=(by have:=A.size;omega)
   replace A:=zh (aC A B);clear S W X B;refine hK.out _ _ (⟨cb A J,cb A L,cb A N,cb A O,cb A Q⟩) ?_;clear hK K D;intro D;try simp only[tz]
   refine tp 3 fun K hK=>?_;go_simp;refine(B4 _ P M n mv ε gl η).mono ?_;rintro e Bl ⟨rfl,B⟩;replace F:=zh (F.belowS B);replace A:=zh (aC A B);clear B;refine hK.out _ _ (⟨cb A J,cb A L,cb A N,cb A O,cb A Q⟩) ?_;clear hK K D;intro D;try simp only[tz]
   refine tp 4 fun K hK=>?_;have Y:=A.size;go_simp;refine(t _ (aC R.cb.bel A)).mono ?_;rintro e Au ⟨u,rfl,I,B⟩;obtain⟨G,H,rfl,_⟩:=I.out;rw[<-ζ.out] at I|-;have s:=F.lt;have m:Hid (∀w9,World.grownBy Au w9 (some g)->Sep w2.heap.size w9 fun w9=>SS w9 (.slice G k H) C):=aG (fun w9 T=>(I.grown T (by rintro b e;cases e;exact s)).mono Y);clear s;replace F:=zh (F.belowS B);replace A:=zh (aC A B);clear B I Y;refine hK.out _ _ (⟨cb A J,cb A L,cb A N,cb A O,cb A Q⟩) ?_;clear hK K D;intro D;try simp only[tz]
   refine tq 5 ?_;refine tq 6 ?_;refine tq 7 ?_;try simp only[tz]
   refine tp 9 fun K hK=>?_;obtain⟨o,p,d,f⟩:=F.two;go_simp;obtain⟨Bm,U,E⟩:=sQ (x:=(n:aV)) (y:=.slice G k H) F.out;rw[U];have l:=zh (m _ E.gr);have V:=zh E.blk;replace A:=zh (E.below A A.size Z);clear o p d f U E F;refine hK.out _ _ (⟨cb A J,cb A L,cb A N,cb A O,cb A Q⟩) ?_;clear hK K D;intro D;try simp only[tz]
   refine tn 10 fun K hK=>?_;go_simp;refine hK.out _ _ D (fun r=>?_);clear hK K;clear r;refine tw ?_;try simp only[tz]
   clear D;go_wp2_with fail;go_meet;exact⟨g,G,H,rfl,rfl,Z,V,l,A⟩
 case rest=>clear c0 c1 c2 c3 c4;obtain⟨g,G,H,rfl,rfl,T,V,Ac,A⟩:=hcut;have c:=zh (R.on A);have Bf:=A.size;clear J L N O Q;have x0:wc.cell? g=some (n:aV):=V.cell 0;have x1:wc.cell? (g 1 none)=some (.slice G k H):=V.cell 1;have c0:=c.cb.c0;have c1:=c.cb.c1;have c2:=c.cb.c2;go_wp2_with fail;refine(π wc _ _ _ c.cb.bel).mono ?_;rintro e Bh ⟨Bg,rfl,μ,ι⟩;obtain⟨ρ,χ,rfl⟩:=μ.form';have δ:=zh (c.on ι);have Ae:=zh (Ac.on ι);have Ad:=zh (μ.sep ω Aa);have Ai:=R.cb.bel.size;have Aj:=c.cb.bel.size;have Bd:=R.q.lt;have Be:=c.q.lt;clear μ ι c0 c1 c2 x0 x1;obtain⟨Bp,Bq,Br,Bs,Bt,d,f,Ay,Az,Ba⟩:=δ.q.five;go_wp2_with fail;obtain⟨Bo,Ak,E⟩:=zL (x:=(P:aV)) (y:=(M:aV)) (z:=.slice ρ Mq.length χ) (u:=(n:aV)) (v:=.slice G k H) δ.q;rw[Ak];have Am:=E.c0;have An:=E.c1;have Ao:=E.c2;have Ap:=E.c3;have Aq:=E.c4;refine bodyPost_ret (v:=.tuple #[.agg #[P,M,.slice ρ Mq.length χ,n,.slice G k H],.int .i64 0]) (by simp[results,results212,go_sem,Am,An,Ao,Ap,Aq]) rfl ?_;exact⟨_,_,rfl,((Ad.grown E.gr (by rintro b e;cases e;omega)).mono Aj).and ((Ae.grown E.gr (by rintro b e;cases e;omega)).mono Ai),E.below δ.cb.bel δ.cb.bel.size om⟩
