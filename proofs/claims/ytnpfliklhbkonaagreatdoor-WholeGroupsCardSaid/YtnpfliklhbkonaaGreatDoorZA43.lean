/- Parts. -/
import Derived.Test.YtnpfliklhbkonaaGreatDoorZA42
set_option maxRecDepth 99999
set_option maxHeartbeats 0
set_option linter.unusedVariables false
namespace Go.Proofs.YtnpfliklhbkonaaGreatDoor
open Go.Proofs.Tryz
section
open Go.RowKit
def eW(σ:Nat->Nat)(v:Va)(t:Nat):Nat->Nat:=fun g=>if v.ownBlock=some g then t else σ g
section
variable {σ:Nat->Nat} {v v':Va} {t N:Nat}
theorem fF(A:v'.ownBlock=v.ownBlock\/v'.ownBlock=some N)(B:∀g,v.ownBlock=some g->σ g=t){g:Nat}(C:g<N):eW σ v' t g=σ g:=by
 unfold eW;by_cases e:v'.ownBlock=some g
 .rw[iP e];rcases A with A|A
  .exact(B g (A▸e)).symm
  .rw[A] at e;injection e with e;omega
 .rw[iN e]
theorem lM{g:Nat}(h:v'.ownBlock=some g):eW σ v' t g=t:=iP h
end
def fr(t0:Nat)(σ:Nat->Nat):Nat->Prop:=fun g=>σ g=0/\g≠t0
structure ChO(B t0 t2 t3 n:Nat)(σ:Nat->Nat)(lv:Va)(cs:List (List Va))(ls:List LvP)(w:Wo):Prop where
 t0lt:t0<B
 lo:∀g,σ g≠0->B<=g/\g<w.heap.size
 s3:σ t3=1
 s2:σ t2=1
 sl:∀g,lv.ownBlock=some g->σ g=5
 b3:Blk w t3 37 [(n:aV),lv]
 b2:Blk w t2 37 [.int .i64 0,.slice none 0 0]
 ne:t2≠t3
 l:RO B 120 3 w lv cs
 fin:gU (fr t0 σ) w fun w2=>LX w2 cs ls
structure ChI(B t0 t2 t3 t5 n b:Nat)(σ:Nat->Nat)(ov rv lv:Va)(orb:LI)(us:List Va)(reps:LL)(cs:List (List Va))(ls:List LvP)(w:Wo):Prop where
 t0lt:t0<B
 lo:∀g,σ g≠0->B<=g/\g<w.heap.size
 s3:σ t3=1
 s2:σ t2=1
 s5:σ t5=2
 so:∀g,ov.ownBlock=some g->σ g=3
 sr:∀g,rv.ownBlock=some g->σ g=4
 sl:∀g,lv.ownBlock=some g->σ g=5
 b3:Blk w t3 37 [(n:aV),lv]
 b2:Blk w t2 37 [.int .i64 0,.slice none 0 0]
 ne:t2≠t3
 b5:Blk w t5 120 [(b:aV),ov,rv]
 o:OI B w ov orb
 r:RO B 22 1 w rv (oR us)
 l:RO B 120 3 w lv cs
 fin:gU (fr t0 σ) w fun w2=>LX w2 cs ls
 rows:gU (fr t0 σ) w fun w2=>I5 w2 us reps
theorem LX.snoc{w:Wo}{cs:List (List Va)}{ls:List LvP}(h:LX w cs ls){c:List Va}{l:LvP}(B:LvR w c l):LX w (cs++[c]) (ls++[l]):=by
 refine⟨by rw[aZ1,aZ1,h.1];rfl,fun k hk=>?_⟩;rw[aZ1,aZ2] at hk;by_cases e:k<ls.length
 .rw[show(cs++[c]).getD k []=cs k [] by simp[List.getD,aY2 (show k<cs.length by rw[h.1];exact e)],show(ls++[l]).getD k default=ls k default by simp[List.getD,aY2 e]];exact h.2 k e
 .have A:k=ls.length:=om;rw[A,show(ls++[l]).getD ls.length default=l by simp[List.getD],show(cs++[c]).getD ls.length []=c by rw[<-h.1];simp[List.getD]];exact B
theorem I5.snoc{w:Wo}{us:List Va}{A:LL}(h:I5 w us A){u:Va}{q:LI}(hq:SI w u q):I5 w (us++[u]) (A++[q]):=by
 refine⟨by rw[aZ1,aZ1,h.1];rfl,fun k hk=>?_⟩;rw[aZ1,aZ2] at hk;by_cases e:k<A
 .rw[show(us++[u]).getD k (():aV)=us k (():aV) by simp[List.getD,aY2 (show k<us by rw[h.1];exact e)],show(A++[q]).getD k []=A k [] by simp[List.getD,aY2 e]];exact h.2 k e
 .have B:k=A:=om;rw[B,show(A++[q]).getD A []=q by simp[List.getD],show(us++[u]).getD A (():aV)=u by rw[<-h.1];simp[List.getD]];exact hq
section
variable {B t0 t2 t3 t5 n b:Nat} {σ:Nat->Nat} {ov rv lv ov' rv' lv':Va} {orb orb':LI} {us:List Va} {reps:LL} {cs:List (List Va)} {ls:List LvP} {w w' w9:Wo}
theorem ChI.size(h:ChI B t0 t2 t3 t5 n b σ ov rv lv orb us reps cs ls w):B<=w.heap.size:=by have:=h.lo t3 (by rw[h.s3];decide);omega
theorem ChO.size(h:ChO B t0 t2 t3 n σ lv cs ls w):B<=w.heap.size:=by have:=h.lo t3 (by rw[h.s3];decide);omega
theorem ChI.on(h:ChI B t0 t2 t3 t5 n b σ ov rv lv orb us reps cs ls w)(A:Below w w w'):ChI B t0 t2 t3 t5 n b σ ov rv lv orb us reps cs ls w':=by have hk:=KX.of (X:=fr t0 σ) A h.size;have D:=A.size;exact⟨h.t0lt,fun g C=>⟨(h.lo g C).1,oA ((h.lo g C).2)⟩,h.s3,h.s2,h.s5,h.so,h.sr,h.sl,h.b3.belowS A,h.b2.belowS A,h.ne,h.b5.belowS A,h.o.below A zr,h.r.below A zr,h.l.below A zr,h.fin.on hk,h.rows.on hk⟩
theorem ChI.pushO(h:ChI B t0 t2 t3 t5 n b σ ov rv lv orb us reps cs ls w)(N:OI B w9 ov' orb')(A:w.grownBy w9 ov.ownBlock)(D:ov'.ownBlock=ov.ownBlock\/ov'.ownBlock=some w.heap.size):ChI B t0 t2 t3 t5 n b (eW σ ov' 3) ov' rv lv orb' us reps cs ls (w9.setCell (t5 1 none) ov'):=by
 have T:=A.size;have S:(w9.setCell (t5 1 none) ov').heap.size=w9.heap.size:=by simp[World.setCell]
 have E:=aU w9 t5 1 ov';have F:∀{g t:Nat},σ g=t->t≠0->eW σ ov' 3 g=t:=fun e hn=>(fF D h.so (h.lo _ (by rw[e];exact hn)).2).trans e;have I:∀{g:Nat},σ g≠3->some g≠ov.ownBlock:=fun hn e=>hn (h.so _ e.symm);have K:∀{g:Nat},σ g≠2->some g≠some t5:=fun hn e=>hn (by injection e with e;rw[e];exact h.s5);have O:∀{v:Va} {t:Nat},(∀g,v.ownBlock=some g->σ g=t)->t≠3->∀g,v.ownBlock=some g->ov.ownBlock≠some g:=fun G R g A e=>by have:=h.so g e;have:=G g A;omega
 have P:∀{v:Va} {t:Nat},(∀g,v.ownBlock=some g->σ g=t)->t≠2->∀g,v.ownBlock=some g->some t5≠some g:=fun G R g A e=>by injection e with e;have:=G g A;have:=h.s5;subst e;omega
 have hB:=h.size;have hk:KX B (fr t0 σ) w (w9.setCell (t5 1 none) ov'):=(KX.gr A hB fun g e=>⟨(h.lo g (by rw[h.so g e];decide)).1,fun J=>oB (h.so g e) J.1⟩).trans (KX.gr E om fun g e=>by injection e with e;subst e;exact⟨(h.lo t5 (by rw[h.s5];decide)).1,fun J=>oB h.s5 J.1⟩);have M:∀{Φ:Wo->Prop},gU (fr t0 σ) w Φ->gU (fr t0 (eW σ ov' 3)) (w9.setCell (t5 1 none) ov') Φ:=fun G=>(G.more fun g H e=>⟨(fF D h.so H).trans e.1,e.2⟩).on (B:=B) ⟨hk.bel,fun g e H=>hk.box g ⟨(fF D h.so H).symm.trans e.1,e.2⟩ H⟩;refine⟨h.t0lt,fun g L=>?_,F h.s3 dC,F h.s2 dC,F h.s5 dC,fun g C=>lM C,fun g C=>F (h.sr g C) dC,fun g C=>F (h.sl g C) dC,(h.b3.grown A (I (by rw[h.s3];decide))).grown E (K (by rw[h.s3];decide)),(h.b2.grown A (I (by rw[h.s2];decide))).grown E (K (by rw[h.s2];decide)),h.ne,(h.b5.grown A (I (by rw[h.s5];decide))).set_ 1 ov',?_,(h.r.grown A (O h.sr dC)).grown E (P h.sr dC),(h.l.grown A (O h.sl dC)).grown E (P h.sl dC),M h.fin,M h.rows⟩
 .rw[S];by_cases e:ov'.ownBlock=some g
  .exact N.lt e
  .have Q:eW σ ov' 3 g=σ g:=by unfold eW;rw[iN e]
   rw[Q] at L;have:=h.lo g L;omega
 .refine N.grown E fun g C e=>?_;injection e with e;subst e;rcases D with D|D
  .rw[D] at C;have:=h.so _ C;have:=h.s5;omega
  .rw[D] at C;injection C with C;have:=(h.lo t5 (by rw[h.s5];decide)).2;omega
theorem ChI.pushR(h:ChI B t0 t2 t3 t5 n b σ ov rv lv orb us reps cs ls w){u:Va}{q:LI}(hq:gU (fr t0 σ) w fun w2=>SI w2 u q)(N:RO B 22 1 w9 rv' (oR us++[[u]]))(A:w.grownBy w9 rv.ownBlock)(D:rv'.ownBlock=rv.ownBlock\/rv'.ownBlock=some w.heap.size):ChI B t0 t2 t3 t5 n b (eW σ rv' 4) ov rv' lv orb (us++[u]) (reps++[q]) cs ls (w9.setCell (t5 2 none) rv'):=by
 have U:=A.size;have T:(w9.setCell (t5 2 none) rv').heap.size=w9.heap.size:=by simp[World.setCell]
 have E:=aU w9 t5 2 rv';have F:∀{g t:Nat},σ g=t->t≠0->eW σ rv' 4 g=t:=fun e hn=>(fF D h.sr (h.lo _ (by rw[e];exact hn)).2).trans e;have I:∀{g:Nat},σ g≠4->some g≠rv.ownBlock:=fun hn e=>hn (h.sr _ e.symm);have K:∀{g:Nat},σ g≠2->some g≠some t5:=fun hn e=>hn (by injection e with e;rw[e];exact h.s5);have P:∀{v:Va} {t:Nat},(∀g,v.ownBlock=some g->σ g=t)->t≠4->∀g,v.ownBlock=some g->rv.ownBlock≠some g:=fun G S g A e=>by have:=h.sr g e;have:=G g A;omega
 have Q:∀{v:Va} {t:Nat},(∀g,v.ownBlock=some g->σ g=t)->t≠2->∀g,v.ownBlock=some g->some t5≠some g:=fun G S g A e=>by injection e with e;have:=G g A;have:=h.s5;subst e;omega
 have hB:=h.size;have hk:KX B (fr t0 σ) w (w9.setCell (t5 2 none) rv'):=(KX.gr A hB fun g e=>⟨(h.lo g (by rw[h.sr g e];decide)).1,fun J=>oB (h.sr g e) J.1⟩).trans (KX.gr E om fun g e=>by injection e with e;subst e;exact⟨(h.lo t5 (by rw[h.s5];decide)).1,fun J=>oB h.s5 J.1⟩);have M:∀{Φ:Wo->Prop},gU (fr t0 σ) w Φ->gU (fr t0 (eW σ rv' 4)) (w9.setCell (t5 2 none) rv') Φ:=fun G=>(G.more fun g H e=>⟨(fF D h.sr H).trans e.1,e.2⟩).on (B:=B) ⟨hk.bel,fun g e H=>hk.box g ⟨(fF D h.sr H).symm.trans e.1,e.2⟩ H⟩;refine⟨h.t0lt,fun g L=>?_,F h.s3 dC,F h.s2 dC,F h.s5 dC,fun g C=>F (h.so g C) dC,fun g C=>lM C,fun g C=>F (h.sl g C) dC,(h.b3.grown A (I (by rw[h.s3];decide))).grown E (K (by rw[h.s3];decide)),(h.b2.grown A (I (by rw[h.s2];decide))).grown E (K (by rw[h.s2];decide)),h.ne,(h.b5.grown A (I (by rw[h.s5];decide))).set_ 2 rv',(h.o.grown A (P h.so dC)).grown E (Q h.so dC),?_,(h.l.grown A (P h.sl dC)).grown E (Q h.sl dC),M h.fin,M ((h.rows.and hq).imp fun w2 O=>O.1.snoc O.2)⟩
 .rw[T];by_cases e:rv'.ownBlock=some g
  .exact N.lt e
  .have R:eW σ rv' 4 g=σ g:=by unfold eW;rw[iN e]
   rw[R] at L;have:=h.lo g L;omega
 .have e:oR (us++[u])=oR us++[[u]]:=by simp[oR]
  rw[e];refine N.grown E fun g C e=>?_;injection e with e
  subst e;rcases D with D|D
  .rw[D] at C;have:=h.sr _ C;have:=h.s5;omega
  .rw[D] at C;injection C with C;have:=(h.lo t5 (by rw[h.s5];decide)).2;omega
def pY(σ:Nat->Nat):Nat->Nat:=fun g=>if σ g=1\/σ g=5 then σ g else 0
theorem ChI.drop(h:ChI B t0 t2 t3 t5 n b σ ov rv lv orb us reps cs ls w):ChO B t0 t2 t3 n (pY σ) lv cs ls w:=by
 refine⟨h.t0lt,fun g A=>h.lo g fun e=>A ?_,?_,?_,fun g A=>?_,h.b3,h.b2,h.ne,h.l,h.fin.more fun g _ e=>?_⟩
 .unfold pY;rw[iN om]
 .unfold pY;rw[iP (.inl h.s3)];exact h.s3
 .unfold pY;rw[iP (.inl h.s2)];exact h.s2
 .unfold pY;rw[iP (.inr (h.sl g A))];exact h.sl g A
 .refine⟨?_,e.2⟩;have:=e.1;unfold pY;rw[iN om]
theorem ChO.next(h:ChO B t0 t2 t3 n σ lv cs ls w)(C:Below w w w')(J:w<=t5)(F:Blk w' t5 120 [(b:aV),.slice none 0 0,.slice none 0 0]):ChI B t0 t2 t3 t5 n b (fun g=>if g=t5 then 2 else σ g) (():aV) (():aV) lv [] [] [] cs ls w':=by
 have I:=F.lt;have K:=C.size;have hB:=h.size;have D:∀{g t:Nat},σ g=t->t≠0->(if g=t5 then 2 else σ g)=t:=fun e hn=>by rw[iN (by have:=(h.lo _ (by rw[e];exact hn)).2;omega)];exact e
 have hk:=KX.of (X:=fr t0 σ) C hB;refine⟨h.t0lt,fun g A=>?_,D h.s3 dC,D h.s2 dC,iP rfl,fun g A=>by simp[Value.ownBlock] at A,fun g A=>by simp[Value.ownBlock] at A,fun g A=>D (h.sl g A) dC,h.b3.belowS C,h.b2.belowS C,h.ne,F,OI.nil _ _,RO.nil _ _ _ _,h.l.below C zr,fun w2 E=>h.fin w2 fun g A H=>?_,fun w2 E=>⟨rfl,fun k hk=>aB hk (aY5 _)⟩⟩
 .by_cases e:g=t5
  .subst e;omega
  .have G:(if g=t5 then 2 else σ g)≠0:=A;rw[iN e] at G;have:=h.lo g G;omega
 .refine(E g ⟨?_,A.2⟩ om).trans (C.block g H);show(if g=t5 then 2 else σ g)=0;rw[iN om];exact A.1
theorem ChI.pushL(h:ChI B t0 t2 t3 t5 n b σ ov rv lv orb us reps cs ls w)(Q:RO B 120 3 w9 lv' (cs++[[(b:aV),ov,rv]]))(E:w.grownBy w9 lv.ownBlock)(C:lv'.ownBlock=lv.ownBlock\/lv'.ownBlock=some w.heap.size)(P:orb.length<=17592186044416/\reps.length<=17592186044416)(hi:∀k,I64 (orb k 0)):ChO B t0 t2 t3 n (pY (eW σ lv' 5)) lv' (cs++[[(b:aV),ov,rv]]) (ls++[⟨b,orb,reps⟩]) (w9.setCell (t3 1 none) lv'):=by
 have d:=E.size;have Z:(w9.setCell (t3 1 none) lv').heap.size=w9.heap.size:=by simp[World.setCell]
 have I:=aU w9 t3 1 lv';have J:∀{g t:Nat},σ g=t->t≠0->eW σ lv' 5 g=t:=fun e hn=>(fF C h.sl (h.lo _ (by rw[e];exact hn)).2).trans e;have N:∀{g:Nat},σ g≠5->some g≠lv.ownBlock:=fun hn e=>hn (h.sl _ e.symm);have hB:=h.size;have s3:=J h.s3 dC;have s2:=J h.s2 dC
 --all that is done reads on while only t3 and the levels' row turn
 have key:gU (fr t0 (pY (eW σ lv' 5))) w fun w2=>LX w2 cs ls/\SI w2 ov orb/\SS w2 rv reps:=by
  have f:=h.t0lt;have F:∀g,g<w.heap.size->σ g≠1->σ g≠5->g≠t0->fr t0 (pY (eW σ lv' 5)) g:=fun g D i j c=>by refine⟨?_,c⟩;unfold pY;rw[fF C h.sl D,iN om]
  have X:gU (fr t0 (pY (eW σ lv' 5))) w fun w2=>RO B 22 1 w2 rv (oR us):=fun w2 G=>h.r.keep fun g A=>G g (F g (h.r.lt A).2 (by rw[h.sr g A];decide) (by rw[h.sr g A];decide) (oA ((h.r.lt A).1))) (h.r.lt A).2;have V:gU (fr t0 (pY (eW σ lv' 5))) w fun w2=>SI w2 ov orb:=fun w2 G=>(h.o.keep fun g A=>G g (F g (h.o.lt A).2 (by rw[h.so g A];decide) (by rw[h.so g A];decide) (oA ((h.o.lt A).1))) (h.o.lt A).2).si P.1 hi;have T:=h.fin.more (Y:=fr t0 (pY (eW σ lv' 5))) fun g D e=>F g D (oA e.1) (oA e.1) e.2;have W:=h.rows.more (Y:=fr t0 (pY (eW σ lv' 5))) fun g D e=>F g D (oA e.1) (oA e.1) e.2;exact(T.and (V.and (X.and W))).imp fun w2⟨K,L,M,a⟩=>⟨K,L,fc M a P.2⟩
 have hk:KX B (fr t0 (pY (eW σ lv' 5))) w (w9.setCell (t3 1 none) lv'):=by
  refine(KX.gr E hB fun g e=>?_).trans (KX.gr I om fun g e=>?_)
  .have R:=h.sl g e;refine⟨(h.lo g (by rw[R];decide)).1,?_⟩;intro H;have:=H.1;unfold pY at this;rw[J R dC] at this;exact aB this dC
  .injection e with e
   subst e;refine⟨(h.lo t3 (by rw[h.s3];decide)).1,?_⟩;intro H;have:=H.1;unfold pY at this;rw[s3] at this;exact aB this dC
 refine⟨h.t0lt,fun g U=>?_,?_,?_,fun g A=>?_,(h.b3.grown E (N (by rw[h.s3];decide))).set_ 1 lv',(h.b2.grown E (N (by rw[h.s2];decide))).grown I (fun e=>h.ne (by injection e)),h.ne,?_,(key.on hk).imp fun w2⟨K,L,M⟩=>K.snoc ⟨ov,rv,rfl,L,M⟩⟩
 .rw[Z];have O:eW σ lv' 5 g≠0:=fun e=>U (by unfold pY;rw[e];rfl);by_cases e:lv'.ownBlock=some g
  .exact Q.lt e
  .have S:eW σ lv' 5 g=σ g:=by unfold eW;rw[iN e]
   rw[S] at O;have:=h.lo g O;omega
 .unfold pY;rw[s3];rfl
 .unfold pY;rw[s2];rfl
 .unfold pY;rw[lM A];rfl
 .refine Q.grown I fun g A e=>?_;injection e with e;subst e;rcases C with C|C
  .rw[C] at A;have:=h.sl _ A;have:=h.s3;omega
  .rw[C] at A;injection A with A;have:=(h.lo t3 (by rw[h.s3];decide)).2;omega
end
theorem infoLvl:(prog.info? 120).map (fun i=>(i.zero,i.size,i.bytes))=some (some (.agg #[z0,(),()]),3,56):=by kernel_rfl
section
variable {B t0 t2 t3 t5 n b:Nat} {σ:Nat->Nat} {ov rv lv:Va} {orb:LI} {us:List Va} {reps:LL} {cs:List (List Va)} {ls:List LvP} {w w0 w9:Wo}
theorem ChI.belI(h:ChI B t0 t2 t3 t5 n b σ ov rv lv orb us reps cs ls w)(D:Below B w0 w){v:Va}(E:v=ov\/v=rv)(A:w.grownBy w9 v.ownBlock)(i:Nat)(u:Va):Below B w0 (w9.setCell ⟨t5,i,none⟩ u):=by
 have hB:=h.size;have C:=D.grown A hB fun g e=>(h.lo g (by
  rcases E with rfl|rfl
  .rw[h.so g e];decide
  .rw[h.sr g e];decide)).1
 exact C.grown (aU w9 t5 i u) (aZ6 hB A.size) fun g e=>by injection e with e;subst e;exact(h.lo t5 (by rw[h.s5];decide)).1
theorem ChI.belL(h:ChI B t0 t2 t3 t5 n b σ ov rv lv orb us reps cs ls w)(D:Below B w0 w)(A:w.grownBy w9 lv.ownBlock)(i:Nat)(u:Va):Below B w0 (w9.setCell ⟨t3,i,none⟩ u):=by have hB:=h.size;have C:=D.grown A hB fun g e=>(h.lo g (by rw[h.sl g e];decide)).1;exact C.grown (aU w9 t3 i u) (aZ6 hB A.size) fun g e=>by injection e with e;subst e;exact(h.lo t3 (by rw[h.s3];decide)).1
theorem ChI.box5(h:ChI B t0 t2 t3 t5 n b σ ov rv lv orb us reps cs ls w){v:Va}(C:v=ov\/v=rv)(A:w.grownBy w9 v.ownBlock):Blk w9 t5 120 [(b:aV),ov,rv]:=h.b5.grown A fun e=>by
 have D:=h.s5;rcases C with rfl|rfl
 .have:=h.so _ e.symm;omega
 .have:=h.sr _ e.symm;omega
theorem ChI.box3(h:ChI B t0 t2 t3 t5 n b σ ov rv lv orb us reps cs ls w)(A:w.grownBy w9 lv.ownBlock):Blk w9 t3 37 [(n:aV),lv]:=h.b3.grown A fun e=>by have C:=h.s3;have:=h.sl _ e.symm;omega
theorem ChI.row(h:ChI B t0 t2 t3 t5 n b σ ov rv lv orb us reps cs ls w)(H:w.heap.size<=w9.heap.size){u:Va}{q:LI}(F:SI w9 u q)(G:∀g,u.ownBlock=some g->g<B\/w.heap.size<=g)(C:∀g,u.ownBlock=some g->g≠t0):gU (fr t0 σ) w9 fun w2=>SI w2 u q:=
 F.stay fun _ g A=>⟨eJ fun E=>by have:=h.lo g E;rcases G g A with D|D<;>omega,C g A⟩
end
theorem wU.small{R:fH}{Γ:LI->Prop}{n b x:Nat}{orb:LI}{reps:LL}(h:wU R Γ n b x orb reps)(A:x<=1000)(k:Nat):I64 (orb k 0):=by
 by_cases hk:k<orb
 .obtain⟨y,B,e,_⟩:=(h.mem (orb k 0)).1 (by rw[aZ4,aZ3 hk];exact aY6 _);rw[e];exact I64.of_small om om
 .rw[aZ4,aY4 om];exact I64.zero
theorem S5(F:TwF)(V:TwV)(w:Wo)(h:TW F V w)(Bm:iR F.n 0 V.R V.G)(hn:F.n<=64):
 Calls prog 99 #[.pointer F.tb] w (fun e w'=>∃(lv:Va) (ls:List LvP),e=.returned (.agg #[.int .i64 (F.n:Int),lv])/\gU (fun g=>g≠F.t0) w' (fun w2=>ChR w2 lv ls)/\CanCh (GenP F.n (V.G 0)) F.n F.n ls/\Below w w w'):=by
 have H:=zh h;have Ae:=zh Bm;clear h Bm;have Do:=fun(w:Wo) (l c:Nat)=>run_neq_slice_nil (P:=prog) w 22 3 none l c underlying22;have Dp:=fun(w:Wo) (Cj:Addr) (l c:Nat)=>run_neq_slice_nil (P:=prog) w 22 3 (some Cj) l c underlying22;obtain⟨n,As⟩:=xE F.n;have f:=zh As;rw[<-As] at hn|-;clear As;go_enter func99,ntmps99;go_upto_region 1 with fail;obtain⟨w1,t2,S,N,ι,Ap⟩:=aR w 37 [.int .i64 0,.slice none 0 0];rw[S,N];have Av:=zh ι;have Aw:=zh Ap;have Ce:Hid (w.heap.size=t2):=aG N;have Bg:=zh (H.on Ap);obtain⟨c0,c1,θ⟩:=Bg.box3;rw[<-f.out] at c0 c1 θ;clear S N ι Ap;go_upto_region 2 with fail;obtain⟨De,t3,S,N,An,κ⟩:=aR w1 37 [(n:aV),.slice none 0 0];rw[S,N];have Ay:Hid (ChO w F.t0 t2 t3 n (fun g=>if g=t3\/g=t2 then 1 else 0) (():aV) [] [] De):=aG (by have Dn:=An.lt;have Dm:=Av.lt;have Ds:=Ce.out;have Dq:=Aw.size;have Dr:=κ.size;refine⟨oB H.size H.t0lt,fun g D=>?_,iP (.inl rfl),iP (.inr rfl),fun g D=>by simp[Value.ownBlock] at D,An,Av.belowS κ,om,RO.nil _ _ _ _,fun w2 _=>⟨rfl,fun k hk=>aB hk (aY5 _)⟩⟩;have:g=t3\/g=t2:=eJ fun e=>D (iN e);omega);have Ax:=zh (aC Aw κ);have χ:=zh (fun(w':Wo) (p:Below w w w')=>H.on p);have Cy:=aE κ c0;clear S N An κ c0 c1 θ Bg;go_wp2_with fail;clear Cy;go_loopw [17] (fun i wr=>∃(k:Nat) (σ:Nat->Nat) (lv:Va) (cs:List (List Va)) (ls:List LvP),k<=n/\i=(k:aV)/\Hid (ChO w F.t0 t2 t3 n σ lv cs ls wr)/\Hid (CanCh (GenP F.n (V.G 0)) F.n k ls)/\Hid (Below w w wr)) (fun i _=>n-(intOf i).toNat)
 .exact⟨0,_,_,_,_,aZ5 _,rfl,Ay,aG .nil,Ax⟩
 .
  clear Ay Ax;obtain⟨k,σ,lv,cs,ls,hk,rfl,A,τ,C⟩:=hrel;by_cases Cr:k<n
  .have s:k<F.n:=f.out▸Cr;go_upto_region 6 with fail;obtain⟨Df,t5,S,N,Bi,Aq⟩:=aR wr 120 [(k:aV),.slice none 0 0,.slice none 0 0];rw[S,N];have Az:=zh (A.next Aq om Bi);have Ab:=zh (C.trans (Aq.mono C.size));have Af:=zh (χ.out Df Ab);obtain⟨c0,c1,θ⟩:=Af.box3;have Bl:=Af.repsAt s;rw[<-f.out] at c0 c1 θ Bl;clear S N Bi Aq;go_wp2_with fail;clear c0 c1 θ Bl;go_loopw [30] (fun i Bq=>∃(x:Nat) (σ2:Nat->Nat) (ov rv:Va) (orb:LI) (us:List Va) (reps:LL),x<=n/\i=(x:aV)/\Hid (ChI w F.t0 t2 t3 t5 n k σ2 ov rv lv orb us reps cs ls Bq)/\Hid (wU V.R (GenP F.n (V.G 0)) F.n k x orb reps)/\Hid (Below w w Bq)) (fun i _=>n-(intOf i).toNat)
   .exact⟨0,_,_,_,_,_,_,aZ5 _,rfl,Az,aG (wU.start _ _ _ _),Ab⟩
   .
    clear Az Ab Af C A;obtain⟨x,σ2,ov,rv,orb,us,reps,Dt,rfl,M,Y,C⟩:=hrel;by_cases Cw:x<n
    .have At:x<F.n:=f.out▸Cw;have Ag:=zh (χ wr C);have Cq:=Ag.rowAt s At;have t:=Ag.rep k x s At;have φ:=zh (fun(w':Wo) (p:Below w w w')=>(χ.out w' p).rep k x s At);generalize V.ru k x=ru at*;cases hrr:V.R k x with
     |none=>rw[hrr] at t;have Cu:ru=.slice none 0 0:=t;subst Cu;have Ah:=zh (Y.skip hrr);clear t hrr;go_wp2;exact⟨⟨x+1,σ2,ov,rv,orb,us,reps,om,pC,M,Ah,C⟩,oI⟩
     |some r=>
      rw[hrr] at t;rw[hrr] at φ;obtain⟨Dc,Db,rfl⟩:=t.row.form;have Cb:=zh hrr;have Bb:=zh (PK Ae hrr);have ζ:=M.b5.cell 1;simp only[eE,eF] at ζ;have O:=zh (M.on (aH wr (.cells #[x] 3)));have z:=zh (Blk.new wr 3 [(x:aV)]);have d:=zh (C.trans ((aH wr (.cells #[x] 3)).mono C.size));have Bd:Hid (orb.length<=64):=aG (oA Y.lex);clear t hrr;go_upto_region 11 with(
       at_builtin;refine dP rfl _ _ rfl w ov orb rfl O.o wr 1 (x:Int) rfl (z.cell 0) (oA Bd.out) d.size ?_;intro v9 w9 T J b;obtain⟨U,ε,X,rfl⟩:∃(U:OA) (ε X:Nat),v9=.slice U ε X:=(by obtain⟨x,y,e⟩:=T.form';exact⟨_,_,_,e⟩)
       have ρ:=zh (O.pushO T J b);have Z:=zh (O.belI d (.inl rfl) J 1 (.slice U ε X));have Q:=zh (O.box5 (.inl rfl) J);have ξ:=Q.cell 1;have Am:=Q.frozen 1;simp only[eE,eF] at ξ;clear T J b)
      generalize w9.setCell (t5 1 none) (.slice U ε X)=ν at*;clear ξ Am Q ζ O z d M C Ag Cq;have η:=ρ.b5.cell 2;simp only[eE,eF] at η;have Cf:=zh (fun(w':Wo) (p:Below ν ν w')=>S4 F V w' k r _ (χ.out w' (Z.trans (p.mono Z.size))) Ae (f.out▸hn) s (φ.out w' (Z.trans (p.mono Z.size))) Bb.1);have Ci:Hid ((oR us).length+1<=100000000):=aG (by rw[iF,ρ.out.rows.out.1,Y.out.len];have:=Bd.out;omega);have Bz:Hid (∀g,(Value.slice (some Dc) r Db).ownBlock=some g->g<w.heap.size):=aG fun g D=>(φ.out w (bE w)).row.lt D;clear φ;generalize eW σ2 (.slice U ε X) 3=σ3 at*;refine da 10 η fun ω=>?_;refine dq 0 ?_;refine dq 1 ?_;refine dq 2 ?_;refine dq 3 ?_;refine dq 4 ?_;try simp only[tz]
      refine dn 5 fun K hK=>?_;go_simp;apply(Cf _ (aI ν)).mono;rintro e Dg⟨u,q,rfl,Aa,a,Ct,Bn,Bk⟩;have Ac:=zh (aC (aI ν) Bk);have π:=zh (ρ.on Ac);have Be:=zh (ρ.row Ac.size Aa.si (fun g D=>a.elim (fun e=>.inl (Bz.out g (e▸D))) (fun h=>.inr (h g D))) Aa.far);have Cd:=zh Bn;have Bx:=zh Aa.form;have ψ:=π.b5.cell 2;simp only[eE,eF] at ψ;clear Aa a Ct Bn Bk;obtain⟨Bp,Bo,rfl⟩:=Bx.out;refine hK.out _ _ (fun _=>ψ) (fun W=>?_);replace ω:=W dC;clear W;try simp only[tz]
      refine dp 6 fun K hK=>?_;go_simp;obtain⟨Du,Cm,S,N,Bj,μ⟩:=aR Dg 22 [.slice (some Bp) q Bo];rw[S,N];have Bh:=zh Bj;have m:=zh (π.on μ);have Br:=zh μ;have Bf:=zh (Be.on (KX.of (B:=w.heap.size) μ π.size));have b7:=aE μ ψ;clear S N Bj μ;refine hK.out _ _ (fun _=>b7) (fun W=>?_);replace ω:=W dC;clear W;try simp only[tz]
      refine dp 7 fun K hK=>?_;refine kQ rfl 22 25 1 24 _ underlying25 infoInts rfl dC dC _ _ rfl w rv (oR us) rfl m.r Cm 1 [.slice (some Bp) q Bo] rfl rfl (fun j u Ar=>(by rcases j with _|j;(simp at Ar;subst Ar;exact Bh.cell 0);(simp at Ar))) (by intro u a;simp at a;subst a;rfl) Ci.out m.size ?_;intro v9 w9 T J b;obtain⟨E,I,L,rfl⟩:∃(E:OA) (I L:Nat),v9=.slice E I L:=(by obtain⟨x,y,e⟩:=T.form';exact⟨_,_,_,e⟩);have Bu:=zh (m.pushR Bf T J b);have Bs:=zh (m.belI (Z.trans ((aC Ac Br).mono Z.size)) (.inr rfl) J 2 (.slice E I L));have Q:=zh (m.box5 (.inr rfl) J);have Al:=Q.cell 2;have Cl:=Q.frozen 2;simp only[eE,eF] at Al;clear T J b;refine hK.out _ _ (fun _=>Al) (fun W=>?_);replace ω:=W dC;clear W;try simp only[tz]
      refine dq 8 ?_;try simp only[tz]
      refine dn 9 fun K hK=>?_;go_simp;refine hK.out _ _ (fun h=>aB rfl h) fun _=>?_;refine dw ?_;try simp only[tz]
      clear ω;generalize w9.setCell (t5 2 none) (.slice E I L)=Dv at*;have Ah:=zh (Y.put Cb Bb Cd);clear η ψ b7 Al Cl Q m π Bh Bf Be;go_wp2;exact⟨⟨x+1,_,_,_,_,_,_,om,pC,Bu,Ah,Bs⟩,oI⟩
    .obtain rfl:n=x:=om;have Ba:Hid (vP (GenP F.n (V.G 0)) F.n k orb reps):=aG (by have:=Y.out;rw[f.out] at this;exact this.done s Ae);have Bc:=zh Y.lex;have Cc:=zh (fun j=>Y.small (show n<=1000 from om) j);have Ca:=zh Y.len;obtain⟨U,X,rfl⟩:=M.o.form';have ζ:=M.b5.cell 1;simp only[eE,eF] at ζ;clear Y;by_cases Co:1<orb.length
     .have Dd:(1:Int)<(orb.length:Int):=om;obtain⟨Ck,_,η,_,_,_⟩:=M.b5.three;have Ak:=M.b3.cell 1;simp only[eE,eF] at Ak;have O:=zh (M.on (aH wr (.cells #[k,.slice U orb X,rv] 120)));have z:=zh (jG wr 120 [(k:aV),.slice U orb X,rv]);have d:=zh (C.trans ((aH wr (.cells #[k,.slice U orb X,rv] 120)).mono C.size));have Bt:Hid (cs.length+1<=100000000):=aG (by rw[M.out.fin.out.1];have:=nP τ.out;omega);obtain⟨Ai,Aj,Au,Cv⟩:∃(Ai:OA) (Aj Au:Nat),rv=.slice Ai Aj Au:=(by obtain⟨x,y,e⟩:=M.r.form';exact⟨_,_,_,e⟩)
      subst Cv;have Ad:=zh (τ.put Ba.out Co);go_upto_region 15 with(
       at_builtin;refine fJ rfl 120 35 3 56 _ underlying35 infoLvl rfl dC dC _ _ rfl w lv cs rfl O.l wr 1 [(k:aV),.slice U orb X,.slice Ai Aj Au] rfl rfl z.out (by intro u a;simp at a;rcases a with rfl|rfl|rfl<;>rfl) Bt.out d.size ?_;intro v9 w9 T J b;obtain⟨E,I,L,rfl⟩:∃(E:OA) (I L:Nat),v9=.slice E I L:=(by obtain⟨x,y,e⟩:=T.form';exact⟨_,_,_,e⟩)
       have Bv:=zh (O.pushL T J b ⟨oA Bc.out,by rw[Ca.out];have:=Bc.out;omega⟩ Cc);have Z:=zh (O.belL d J 1 (.slice E I L));have Q:=zh (O.box3 J);have ξ:=Q.cell 1;have Am:=Q.frozen 1;simp only[eE,eF] at ξ;clear T J b)
      generalize w9.setCell (t3 1 none) (.slice E I L)=ν at*;clear ξ Am Q Ck ζ η Ak O z d M C;go_wp2;exact⟨⟨k+1,_,_,_,_,om,pC,Bv,Ad,Z⟩,oI⟩
     .have Dd:¬(1:Int)<(orb.length:Int):=om;have Ad:=zh (τ.skip Ba om);have Bw:=zh M.drop;go_wp2;exact⟨⟨k+1,_,_,_,_,om,pC,Bw,Ad,C⟩,oI⟩
  .obtain rfl:n=k:=om;obtain⟨Dj,Ak,_,_⟩:=A.b3.two;obtain⟨Dh,Di,Dk,Dl⟩:=A.b2.two;obtain⟨E,I,L,Cs⟩:∃(E:OA) (I L:Nat),lv=.slice E I L:=(by obtain⟨x,y,e⟩:=A.l.form';exact⟨_,_,_,e⟩)
   subst Cs;go_wp2_with fail;obtain⟨Dw,Cx,δ⟩:=sQ (x:=(n:aV)) (y:=.slice E I L) A.b2;rw[Cx];have Cz:=δ.c0;have Da:=δ.c1;refine bodyPost_ret (v:=.agg #[n,.slice E I L]) (by simp[results,results99,go_sem,Cz,Da]) rfl ?_;have Ao:=A.l.grown δ.gr fun g D e=>by injection e with e;subst e;have:=A.sl _ D;have:=A.s2;omega
   have Cp:=A.fin.on (KX.gr δ.gr A.size fun g e=>by injection e with e;subst e;exact⟨(A.lo t2 (by rw[A.out.s2];decide)).1,fun h=>oB A.s2 h.1⟩);refine⟨_,ls,rfl,fun w2 ι=>⟨cs,(Ao.keep fun g D=>ι g (oB ((Ao.lt D).1) A.t0lt) (Ao.lt D).2).rg,(Cp.more fun g _ D=>D.2) w2 ι⟩,by have:=τ.out;rwa[<-f.out] at this,δ.below C C.size ?_⟩;exact(A.lo t2 (by rw[A.out.s2];decide)).1
