/- Parts. -/
import Derived.Test.YtnpfliklhbkonaaGreatDoorZA15
set_option maxRecDepth 99999
set_option maxHeartbeats 0
namespace Go.Proofs.YtnpfliklhbkonaaGreatDoor
open Go.Proofs.Tryz
open Go.RowKit
structure ZO(w:Wo)(a:Nat)(P M:Int)(Mq:LI)(q:Nat)(mv:Va)(ge ce gl cl:Nat)(E L:LI):Prop where
 c0:w.cell? a=some (P:aV)
 c1:w.cell? (a 1 none)=some (M:aV)
 c2:w.cell? (a 2 none)=some mv
 c3:w.cell? (a 3 none)=some (q:aV)
 c4:w.cell? (a 4 none)=some (.slice ge (q-1) ce)
 c5:w.cell? (a 5 none)=some (.slice gl q cl)
 mod:SI w mv Mq
 exp:∀k,k<q-1->w.cell? ⟨ge,k,none⟩=some (.int .i64 (E k 0))
 log:∀k,k<q->w.cell? ⟨gl,k,none⟩=some (.int .i64 (L k 0))
 tab:BQ (aD P M Mq) q E L
 fld:cZ P M Mq
 ord:aF P M=(q:Int)
def GF(w:Wo)(a:Nat)(P M:Int)(Mq:LI):Prop:=∃q mv C A gl B E L,ZO w a P M Mq q mv C A gl B E L
theorem ZO.keep{w w':Wo}{a:Nat}{P M:Int}{Mq:LI}{q:Nat}{mv:Va}{D B gl C:Nat}{E L:LI}(h:ZO w a P M Mq q mv D B gl C E L)(hk:∀p:Addr,p.block<w.heap.size->w'.cell? p=w.cell? p):ZO w' a P M Mq q mv D B gl C E L:=
 have key:∀{p:Addr} {v:Va},w.cell? p=some v->w'.cell? p=some v:=fun h=>(hk _ (World.block_lt_of_cell? _ _ h)).trans h
 ⟨key h.c0,key h.c1,key h.c2,key h.c3,key h.c4,key h.c5,h.mod.keep hk,fun k A=>key (h.exp k A),fun k A=>key (h.log k A),h.tab,h.fld,h.ord⟩
theorem GF.keep{w w':Wo}{a:Nat}{P M:Int}{Mq:LI}(h:GF w a P M Mq)(hk:∀p:Addr,p.block<w.heap.size->w'.cell? p=w.cell? p):GF w' a P M Mq:=by obtain⟨q,mv,C,A,gl,B,E,L,h⟩:=h;exact⟨q,mv,C,A,gl,B,E,L,h.keep hk⟩
theorem GF.below{w w':Wo}{a:Nat}{P M:Int}{Mq:LI}{B:Nat}(h:GF w a P M Mq)(A:Below B w w')(hB:w<=B):GF w' a P M Mq:=h.keep fun _ C=>A.cell (aY1 C hB)
theorem GF.on{w w':Wo}{a:Nat}{P M:Int}{Mq:LI}(h:GF w a P M Mq)(A:Below w w w'):GF w' a P M Mq:=h.below A zr
theorem GF.fld{w:Wo}{a:Nat}{P M:Int}{Mq:LI}(h:GF w a P M Mq):cZ P M Mq:=by obtain⟨q,mv,C,A,gl,B,E,L,h⟩:=h;exact h.fld
theorem GF.sep{B:Nat}{w:Wo}{a:Nat}{P M:Int}{Mq E L:LI}{q:Nat}{mv:Va}{D G gl I:Nat}(O:B<=a)
 (A:Blk w a 115 [(P:aV),(M:aV),mv,(q:aV),.slice D (q-1) G,.slice gl q I])
 (T:OI B w mv Mq)(U:Mq.length<=17592186044416)(V:∀k,I64 (Mq k 0))(J:OI B w (.slice D (q-1) G) E)(N:RI w gl L)(S:B<=gl)
 (H:BQ (aD P M Mq) q E L)(R:cZ P M Mq)(W:aF P M=(q:Int)):Sep B w fun w2=>GF w2 a P M Mq:=fun w2 F=>by
 have Q:=A.lt;have C:∀i,w2.cell? ⟨a,i,none⟩=w.cell? ⟨a,i,none⟩:=fun i=>F ⟨a,i,none⟩ O Q;have K:B<=D/\D<w.heap.size:=J.lt rfl;refine⟨q,mv,D,G,gl,I,E,L,(C 0).trans (A.cell 0),(C 1).trans (A.cell 1),(C 2).trans (A.cell 2),(C 3).trans (A.cell 3),(C 4).trans (A.cell 4),(C 5).trans (A.cell 5),(T.sep U V) w2 F,fun k hk=>?_,fun k hk=>?_,H,R,W⟩
 .rw[F ⟨D,k,none⟩ K.1 K.2];exact J.cell k (by rw[H.el];exact hk)
 .rw[F ⟨gl,k,none⟩ S N.lt];exact N.cell k (by rw[H.ll];exact hk)
def ip(w:Wo)(P M:Int)(Mq:LI)(e:Ending)(w':Wo):Prop:=∃a,e=.returned (.tuple #[.pointer (some ⟨a,0,none⟩),z0])/\Sep w w' (fun w2=>GF w2 a P M Mq)/\Below w w w'
def ie(w:Wo)(e:Ending)(w':Wo):Prop:=e=.returned (.tuple #[.pointer none,.int .i64 1])/\Below w w w'
theorem js(w:Wo)(P M:Int)(mv:Va)(Mq:LI)(h:SI w mv Mq)(H:¬cZ P M Mq):
 Calls prog 20 #[.agg #[P,M,mv]] w (ie w):=by
 have F:=zh h;clear h;have A:=zh (dM.mk' w P M mv);by_cases C:nY P M Mq
 .have I:Hid (wD (aD P M Mq) (aF P M)=[]):=J1 C H;have N:=zh C;have G:Hid (hY P M Mq=true):=mW C;have O:=dB C.1;have Q:=aM P M;generalize hq:aF P M=q at I O Q;have L:=zh hq;clear hq C H;go_enter func20,ntmps20;go_wp2_with fail;obtain⟨w0,E⟩:=xE (w.alloc (.cells #[P,M,mv] 24));rw[<-E] at A|-;clear E;have c0:=A.c0;have c1:=A.c1;have c2:=A.c2;go_wp2_with fail;apply(uT _ P M mv Mq (F.below A.bel zr)).mono;rintro e w1⟨rfl,D⟩;rw[G.out];have B:=zh (A.on D);clear D c0 c1 c2;have c0:=B.c0;have c1:=B.c1;have c2:=B.c2;go_wp2_with fail;apply(gY _ _ _).mono;rintro e w2⟨rfl,rfl⟩;go_wp2_with fail;apply(pU _ P M mv Mq (F.below B.bel zr) N).mono;rintro e w2⟨u,rfl,_,hn,J⟩;obtain rfl:=hn (L.out▸I.out);have R:=fun(w:Wo) (l c:Nat)=>run_eql_slice_nil (P:=prog) w 22 3 none l c underlying22;have K:=zh (B.on J);clear J c0 c1 c2 hn;go_wp2;go_ret2;exact⟨rfl,K.bel⟩
 .have G:Hid (hY P M Mq=false):=iA C;clear C H;go_enter func20,ntmps20;go_wp2_with fail;obtain⟨w0,E⟩:=xE (w.alloc (.cells #[P,M,mv] 24));rw[<-E] at A|-;clear E;have c0:=A.c0;have c1:=A.c1;have c2:=A.c2;go_wp2_with fail;apply(uT _ P M mv Mq (F.below A.bel zr)).mono;rintro e w1⟨rfl,D⟩;rw[G.out];have B:=zh (A.on D);clear D c0 c1 c2;go_wp2;go_ret2;exact⟨rfl,B.bel⟩
theorem oO(w:Wo)(P M:Int)(mv:Va)(Mq:LI)(h:SI w mv Mq)(n:cZ P M Mq):
 Calls prog 20 #[.agg #[P,M,mv]] w (ip w P M Mq):=by
 have d:=zh h;clear h;have Z:=zh (dM.mk' w P M mv);have r:nY P M Mq:=⟨n.1,n.2.1,n.2.2.1⟩
 have hO:=dR n;obtain⟨x,ρ,θ,η⟩:=FD hO;have An:Hid (hY P M Mq=true):=mW r;have At:=dB r.1;have Au:=aM P M;have Bi:Mq.length<=100000:=by
  obtain⟨m,ξ⟩:=r.2.2;obtain⟨_,_,ψ,Be,_,_⟩:=bO r.1;by_cases e:M=1
  .rw[m e];simp
  .have:=(ξ e).1;omega
 obtain⟨q,hq⟩:∃q:Nat,aF P M=(q:Int):=⟨(aF P M).toNat,om⟩
 have μ:=zh hq;rw[hq] at ρ θ η At Au hO;rw[aZ8] at θ η;have ζ:=zh (kb hO ρ θ);have Bj:1<q:=om;have Bk:q<=256:=om;have φ:Hid (wD (aD P M Mq) (aF P M)=(List.range (q-1)).map (bI (aD P M Mq) x)):=by show _=_;rw[hq];exact η
 obtain⟨E,ω⟩:=xE ((List.range (q-1)).map (bI (aD P M Mq) x));rw[<-ω] at ζ φ;have Am:=zh r;have τ:=zh n;clear ω η θ ρ r n hq hO;have Aa:E=q-1:=ζ.el;have Ak:Hid (∀k,k<q-1->0<=E k 0/\E k 0<(q:Int)):=aG fun k hk=>by have:=ζ.unit (μ.out▸dR τ) hk;have m:=this.1;have ξ:=this.2;omega
 have κ:=zh Aa;clear Aa;have Aq:=fun(w:Wo)=>dX q om w;go_enter func20,ntmps20;go_wp2_with fail;obtain⟨w0,Af⟩:=xE (w.alloc (.cells #[P,M,mv] 24));rw[<-Af] at Z|-;clear Af;have c0:=Z.c0;have c1:=Z.c1;have c2:=Z.c2;go_wp2_with fail;apply(uT _ P M mv Mq (d.below Z.bel zr)).mono;rintro e w1⟨rfl,Ab⟩;rw[An.out];have b:=zh (Z.on Ab);clear Ab c0 c1 c2;have c0:=b.c0;have c1:=b.c1;have c2:=b.c2;go_wp2_with fail;apply(gY _ _ _).mono;rintro e w2⟨rfl,rfl⟩;go_wp2_with fail;apply(pU _ P M mv Mq (d.below b.bel zr) Am).mono;rintro e w2⟨u,rfl,δ,_,Ac⟩;rw[φ.out] at δ;obtain⟨T,f,rfl,Bf,Bg⟩:=δ.form (oA κ.out);rw[κ.out] at δ|-;have ε:=zh (δ.mono b.bel.size);have L:=zh (b.on Ac);clear Ac c0 c1 c2 δ;have As:=fun(w:Wo) (l c:Nat)=>run_eql_slice_nil (P:=prog) w 22 3 (some (T:aA)) l c underlying22;rw[μ.out];have c0:=L.c0;have c1:=L.c1;have c2:=L.c2;go_upto_region 7 with fail;clear As;go_cut [6] from 22 to 36 (fun Ax wc=>∃a s gl,Ax=.pointer (some ⟨a,0,none⟩)/\w2.heap.size<=a/\w2.heap.size<=gl/\a≠gl/\Hid (Blk wc a 115 [(P:aV),(M:aV),s,(q:aV),.slice T (q-1) f,.slice (some ⟨gl,0,none⟩) q q])/\Hid (OI w2 wc s Mq)/\Hid (RI wc gl (List.replicate q 0))/\Hid (∀g,s.ownBlock=some g->g≠gl)/\Hid (Below w2 w2 wc))
 case first=>
  refine tc 16 c0 c1 c2 fun D=>?_;have π:=aI w2;generalize w2.drew=Ah at π D|-;have A:=zh π;clear c0 c1 c2;clear π;refine tq 0 ?_;refine tq 1 ?_;refine tq 2 ?_;refine tq 3 ?_;refine tq 5 ?_;refine tq 6 ?_;refine tq 9 ?_;refine tq 10 ?_;refine tq 11 ?_;try simp only[tz]
  refine bY.two (i:=4) (j:=12) (oi:=?opa2) (oj:=?opb2) kr ?hoa2 ?hob2 (fun K hK=>?way12) (fun K hK=>?way22)
  case hoa2=>(conv=>lhs;simp only[tdg,tdh,tdi])
  case hob2=>(conv=>lhs;simp only[tdg,tdh,tdi])
  case way12=>
   go_simp;obtain⟨Bb,v,F,G,H,B⟩:=KI Ah;rw[F,G];have O:=zh (H.mono (B':=w2.heap.size) (oA A.size));replace A:=zh (aC A B);clear F G H B;refine hK.out _ _ ((fun h=>⟨h.c0,h.c1,h.c2⟩) (L.on A)) ?_;clear hK K D;intro D;try simp only[tz]
   refine bY.two (i:=7) (j:=12) (oi:=?opa4) (oj:=?opb4) kr ?hoa4 ?hob4 (fun K hK=>?way14) (fun K hK=>?way24)
   case hoa4=>(conv=>lhs;simp only[tdg,tdh,tdi])
   case hob4=>(conv=>lhs;simp only[tdg,tdh,tdi])
   case way14=>
    refine qX rfl _ _ rfl w2 _ _ rfl O.out _ Mq rfl ((d.below L.bel zr).below A zr) (by simp;omega) A.size ?_;intro Ag Bc N J Y;rw[List.nil_append] at N;obtain⟨U,V,rfl⟩:=N.form';have I:=zh N;replace A:=zh (O.bgrown A A.size J);clear N J Y O;refine hK.out _ _ ((fun h=>⟨h.c0,h.c1,h.c2⟩) (L.on A)) ?_;clear hK K D;intro D;try simp only[tz]
    refine tq 8 ?_;try simp only[tz]
    refine tp 12 fun K hK=>?_;go_simp;obtain⟨Bd,gl,F,G,H,B⟩:=zO Bc q;rw[F,G];have C:=zh H;have t:w2<=gl:=(oA A.size)
    have Q:Hid (∀g,(Value.slice U Mq V).ownBlock=some g->g≠gl):=aG fun g J=>(by have m:=(I.lt J).2;omega)
    replace I:=zh (I.below B zr);replace A:=zh (aC A B);clear F G H B;refine hK.out _ _ ((fun h=>⟨h.c0,h.c1,h.c2⟩) (L.on A)) ?_;clear hK K D;intro D;try simp only[tz]
    refine tq 13 ?_;try simp only[tz]
    refine tp 14 fun K hK=>?_;go_simp;obtain⟨Bt,ga,F,G,H,B⟩:=aR Bd 115 [(P:aV),(M:aV),.slice U Mq V,(q:aV),.slice T (q-1) f,.slice gl q q];rw[F,G];have R:=zh H;have o:w2<=ga:=(oA A.size)
    have X:ga≠gl:=(oA C.lt)
    replace I:=zh (I.below B zr);replace C:=zh (C.belowS B);replace A:=zh (aC A B);clear F G H B;refine hK.out _ _ ((fun h=>⟨h.c0,h.c1,h.c2⟩) (L.on A)) ?_;clear hK K D;intro D;try simp only[tz]
    refine tn 15 fun K hK=>?_;go_simp;refine hK.out _ _ D fun _=>?_;refine tw ?_;try simp only[tz]
    clear D;go_wp2;go_meet;exact⟨ga,_,gl,rfl,o,t,X,R,I,C,Q,A⟩
   case way24=>
    go_simp;obtain⟨Bp,gl,F,G,H,B⟩:=zO Bb q;rw[F,G];have C:=zh H;have t:w2<=gl:=(oA A.size)
    have Q:Hid (∀g,(Value.slice v 0 0).ownBlock=some g->g≠gl):=aG fun g J=>(by have m:=(O.lt J).2;omega)
    replace O:=zh (O.below B zr);replace A:=zh (aC A B);clear F G H B;refine hK.out _ _ ((fun h=>⟨h.c0,h.c1,h.c2⟩) (L.on A)) ?_;clear hK K D;intro D;try simp only[tz]
    refine tp 7 fun K hK=>?_;refine qX rfl _ _ rfl w2 _ _ rfl O.out _ Mq rfl ((d.below L.bel zr).below A zr) (by simp;omega) A.size ?_;intro Ag Ay N J Y;rw[List.nil_append] at N;obtain⟨U,V,rfl⟩:=N.form';have z:some gl≠(Value.slice v 0 0).ownBlock:=fun e=>Q.out gl e.symm rfl;replace Q:Hid (∀g,(Value.slice U Mq V).ownBlock=some g->g≠gl):=aG (fun g W=>Y.elim (fun h=>Q.out g (h▸W)) (fun h=>(by have Ao:=C.lt;rw[h] at W;have ψ:=aZ0 W;omega)));replace C:=zh (C.grown J z);have I:=zh N;replace A:=zh (O.bgrown A A.size J);clear N J Y O z;refine hK.out _ _ ((fun h=>⟨h.c0,h.c1,h.c2⟩) (L.on A)) ?_;clear hK K D;intro D;try simp only[tz]
    refine tq 8 ?_;refine tq 13 ?_;try simp only[tz]
    refine tp 14 fun K hK=>?_;go_simp;obtain⟨Bq,ga,F,G,H,B⟩:=aR Ay 115 [(P:aV),(M:aV),.slice U Mq V,(q:aV),.slice T (q-1) f,.slice gl q q];rw[F,G];have R:=zh H;have o:w2<=ga:=(oA A.size)
    have X:ga≠gl:=(oA C.lt)
    replace I:=zh (I.below B zr);replace C:=zh (C.belowS B);replace A:=zh (aC A B);clear F G H B;refine hK.out _ _ ((fun h=>⟨h.c0,h.c1,h.c2⟩) (L.on A)) ?_;clear hK K D;intro D;try simp only[tz]
    refine tn 15 fun K hK=>?_;go_simp;refine hK.out _ _ D fun _=>?_;refine tw ?_;try simp only[tz]
    clear D;go_wp2;go_meet;exact⟨ga,_,gl,rfl,o,t,X,R,I,C,Q,A⟩
  case way22=>
   go_simp;obtain⟨Az,gl,F,G,H,B⟩:=zO Ah q;rw[F,G];have C:=zh H;have t:w2<=gl:=(oA A.size)
   replace A:=zh (aC A B);clear F G H B;refine hK.out _ _ ((fun h=>⟨h.c0,h.c1,h.c2⟩) (L.on A)) ?_;clear hK K D;intro D;try simp only[tz]
   refine tp 4 fun K hK=>?_;go_simp;obtain⟨Br,v,F,G,H,B⟩:=KI Az;rw[F,G];have O:=zh (H.mono (B':=w2.heap.size) (oA A.size));have Q:Hid (∀g,(Value.slice v 0 0).ownBlock=some g->g≠gl):=aG fun g J=>(by have m:=C.lt;simp[Value.ownBlock] at J;omega)
   replace C:=zh (C.belowS B);replace A:=zh (aC A B);clear F G H B;refine hK.out _ _ ((fun h=>⟨h.c0,h.c1,h.c2⟩) (L.on A)) ?_;clear hK K D;intro D;try simp only[tz]
   refine tp 7 fun K hK=>?_;refine qX rfl _ _ rfl w2 _ _ rfl O.out _ Mq rfl ((d.below L.bel zr).below A zr) (by simp;omega) A.size ?_;intro Ag Ba N J Y;rw[List.nil_append] at N;obtain⟨U,V,rfl⟩:=N.form';have z:some gl≠(Value.slice v 0 0).ownBlock:=fun e=>Q.out gl e.symm rfl;replace Q:Hid (∀g,(Value.slice U Mq V).ownBlock=some g->g≠gl):=aG (fun g W=>Y.elim (fun h=>Q.out g (h▸W)) (fun h=>(by have Ao:=C.lt;rw[h] at W;have ψ:=aZ0 W;omega)));replace C:=zh (C.grown J z);have I:=zh N;replace A:=zh (O.bgrown A A.size J);clear N J Y O z;refine hK.out _ _ ((fun h=>⟨h.c0,h.c1,h.c2⟩) (L.on A)) ?_;clear hK K D;intro D;try simp only[tz]
   refine tq 8 ?_;refine tq 13 ?_;try simp only[tz]
   refine tp 14 fun K hK=>?_;go_simp;obtain⟨Bs,ga,F,G,H,B⟩:=aR Ba 115 [(P:aV),(M:aV),.slice U Mq V,(q:aV),.slice T (q-1) f,.slice gl q q];rw[F,G];have R:=zh H;have o:w2<=ga:=(oA A.size)
   have X:ga≠gl:=(oA C.lt)
   replace I:=zh (I.below B zr);replace C:=zh (C.belowS B);replace A:=zh (aC A B);clear F G H B;refine hK.out _ _ ((fun h=>⟨h.c0,h.c1,h.c2⟩) (L.on A)) ?_;clear hK K D;intro D;try simp only[tz]
   refine tn 15 fun K hK=>?_;go_simp;refine hK.out _ _ D fun _=>?_;refine tw ?_;try simp only[tz]
   clear D;go_wp2;go_meet;exact⟨ga,_,gl,rfl,o,t,X,R,I,C,Q,A⟩
 case rest=>
  clear c0 c1 c2 Aq;obtain⟨ga,s,gl,rfl,o,X,Ar,R,I,C,Q,A⟩:=hcut;have Bh:T≠gl:=om;have σ:=zh (ε.below A zr);clear ε;have Ap:w.heap.size<=w2.heap.size:=L.bel.size;go_wp2;go_loopw [39] (fun i wr=>∃k:Nat,k<=q-1/\i=(k:aV)/\Hid (Blk wr ga 115 [(P:aV),(M:aV),s,(q:aV),.slice T (q-1) f,.slice gl q q])/\Hid (OI w2 wr s Mq)/\Hid (RI wr gl (mQ E q k))/\Hid (OI w wr (.slice T (q-1) f) E)/\Hid (Below w2 w2 wr)) (fun i _=>(q-1-(intOf i).toNat))
  .exact⟨0,aZ5 _,rfl,R,I,C,σ,A⟩
  .
   clear R I C σ A;obtain⟨k,hk,rfl,R,I,C,ι,A⟩:=hrel;have g5:wr.cell? (ga 5 none)=some (.slice gl q q):=R.cell 5;by_cases Ad:k<q-1
   .have F:=ι.cell k (κ.out▸Ad);have Ae:=Ak.out k Ad;have ν:Hid (mQ E q (k+1)=(mQ E q k).set (E k 0).toNat (k:Int)):=rfl;generalize E k 0=x at F Ae ν;obtain⟨S,rfl⟩:∃S:Nat,x=(S:Int):=⟨x.toNat,om⟩
    obtain⟨Bl,Bm⟩:=Ae;have Av:S<q:=om;have Aw:=C.cell S (by rw[uO];exact Av);have Bn:=C.frozen S;rw[aZ8] at ν;have χ:=zh (C.set S (k:Int));rw[<-ν.out] at χ;have Al:=zh (R.far (p:=⟨gl,S,none⟩) Ar (k:aV));have Ai:=zh (I.grown (aU wr gl S (k:aV)) fun g J e=>Q.out g J (aZ0 e).symm);have ε:=zh (ι.grown (aU wr gl S (k:aV)) fun g J e=>(by have m:gl=g:=aZ0 e;have ξ:T=g:=aZ0 J;omega));have Aj:=zh (A.setCell (p:=⟨gl,S,none⟩) X (k:aV));generalize (mQ E q k).getD S 0=Bo at Aw;go_wp2;exact⟨⟨k+1,om,pC,Al,Ai,χ,ε,Aj⟩,oI⟩
   .obtain rfl:k=q-1:=om
    go_wp2;go_ret2;refine⟨ga,rfl,GF.sep om R (I.mono Ap) om d.wfs ι C om ?_ τ μ,aC L.bel A⟩;exact ζ.out
