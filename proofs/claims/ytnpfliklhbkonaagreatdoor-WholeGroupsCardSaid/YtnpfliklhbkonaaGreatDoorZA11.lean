/- Parts. -/
import Derived.Test.YtnpfliklhbkonaaGreatDoorZA10
set_option maxRecDepth 99999
set_option maxHeartbeats 0
namespace Go.Proofs.YtnpfliklhbkonaaGreatDoor
open Go.Proofs.Tryz
open Go.RowKit
def fX(O:aQ)(x:LI)(rows:LL)(n:Nat):Nat->LI
 |0=>List.replicate n 0
 |i+1=>if x i 0≠0 then cQ O (fX O x rows n i) (x i 0) (rows i []) else fX O x rows n i
def kZ(O:aQ)(x:LI)(rows:LL)(n:Nat):LI:=fX O x rows n (min rows x)
theorem lT(O:aQ)(x:LI)(rows:LL)(n:Nat):∀i,(fX O x rows n i).length=n
 |0=>by simp[fX]
 | i + 1 => by rw [fX]; split
               . rw[kF,lT O x rows n i]
               . exact lT O x rows n i
theorem lU{O:aQ}{q:Int}(hO:O.Lt q)(x:LI)(rows:LL)(n:Nat):∀i,Rng q (fX O x rows n i)
 |0=>Rng.zero hO.pos n
 |i+1=>by
  rw[fX];split
  .exact(Rows.addTo hO (lU hO x rows n i) _ _).2
  .exact lU hO x rows n i
structure jQ(w w0:Wo)(P M:Int)(mv:Va)(cols:Int)(rv:Va):Prop where
 fb:dM w w0 P M mv
 mb:Blk w0 (w.heap.size+1) 74 [(cols:aV),rv]
theorem jQ.mk'(w:Wo)(P M:Int)(mv:Va)(A:Int)(rv:Va):jQ w ((w.alloc (.cells #[P,M,mv] 24)).alloc (.cells #[A,rv] 74)) P M mv A rv:=
 ⟨(dM.mk' w P M mv).on (aH _ _),by have:=Blk.new (w.alloc (.cells #[P,M,mv] 24)) 74 [(A:aV),rv];rw[World.size_alloc] at this;exact this⟩
theorem jQ.on{w w0 w1:Wo}{P M A:Int}{mv rv:Va}(h:jQ w w0 P M mv A rv)(B:Below w0 w0 w1):jQ w w1 P M mv A rv:=⟨h.fb.on B,h.mb.belowS B⟩
theorem jQ.d0{w w0:Wo}{P M A:Int}{mv rv:Va}(h:jQ w w0 P M mv A rv):w0.cell? ⟨w.heap.size+1,0,none⟩=some (A:aV):=h.mb.cell 0
theorem jQ.d1{w w0:Wo}{P M A:Int}{mv rv:Va}(h:jQ w w0 P M mv A rv):w0.cell? ⟨w.heap.size+1,1,none⟩=some rv:=h.mb.cell 1
def tS(A:Int)(rows:LL):Bool:=rows.all fun r=>(r.length:Int)==A
def zH(q:Int)(rows:LL):Bool:=rows.all fun r=>dH q r==0
noncomputable def fB(P M:Int)(Mq:LI)(A:Int)(rows:LL):Int:=
 if dI P M Mq≠0 then dI P M Mq else if A<0\/256<A\/256<(rows.length:Int) then 3 else if tS A rows=true then(if zH (aF P M) rows=true then 0 else 2) else 3
theorem kM{p:LI->Bool}{rows:LL}(h:∀j,j<rows.length->p (rows j [])=true):rows.all p=true:=by rw[List.all_eq_true];intro x A;obtain⟨i,hi,rfl⟩:=eI.1 A;have:=h i hi;simpa[List.getD,hi] using this
theorem BB{p:LI->Bool}{rows:LL}{k:Nat}(hk:k<rows)(h:p (rows k [])=false):rows.all p=false:=by rw[List.all_eq_false];refine⟨rows[k],aY6 hk,?_⟩;simp[List.getD,hk] at h;simp[h]
theorem tK(q:Int)(l:LI):dH q l=0\/dH q l=2:=by unfold dH;split<;>simp
theorem AS(w:Wo)(P M B:Int)(mv rv:Va)(Mq:LI)(rows:LL)(f:SI w mv Mq)(R:SS w rv rows):
 Calls prog 86 #[.agg #[P,M,mv],.agg #[B,rv]] w (kV w (fB P M Mq B rows)):=by
 have U:=zh f;clear f;obtain⟨A,c,rfl,R⟩:=R;have s:=R.len;have V:=zh (show SS w (.slice A rows c) rows from⟨A,c,rfl,R⟩);clear R;obtain⟨n,hn⟩:=xE rows.length;have C:=zh (jQ.mk' w P M mv B (.slice A n c));rw[<-hn] at V s|-;by_cases H:dI P M Mq=0
 case neg=>
  have F:Hid (fB P M Mq B rows=dI P M Mq):=by show _=_;unfold fB;rw[iP H]
  have u:(dI P M Mq !=0)=true:=by rw[eC];exact H
  clear H hn;go_enter func86,ntmps86;go_wp2_with fail;generalize hw0:(w.alloc (.cells #[P,M,mv] 24)).alloc (.cells #[B,.slice A n c] 74)=w0 at*;have c0:=C.fb.c0;have c1:=C.fb.c1;have c2:=C.fb.c2;go_wp2_with fail;refine(mA _ P M mv Mq (U.below C.fb.bel zr)).mono ?_;rintro e w1 ⟨rfl,J⟩;have h:=zh (aC C.fb.bel J);clear J;go_wp2_with fail;go_ret;exact⟨by rw[F.out];rfl,h.out⟩
 have l:=zh H;by_cases S:B<0\/256<B\/256<(n:Int)
 .have F:Hid (fB P M Mq B rows=3):=by show _=_;unfold fB;rw[iN (by rw[H];decide),<-hn,iP S]
  rw[F.out];have K:=zh H;clear H hn;go_enter func86,ntmps86;go_wp2_with fail;generalize hw0:(w.alloc (.cells #[P,M,mv] 24)).alloc (.cells #[B,.slice A n c] 74)=w0 at*;have c0:=C.fb.c0;have c1:=C.fb.c1;have c2:=C.fb.c2;go_wp2_with fail;refine(mA _ P M mv Mq (U.below C.fb.bel zr)).mono ?_;rintro e w1 ⟨rfl,J⟩;rw[K.out];have G:=zh (C.on J);clear J;have d0:=G.d0;have d1:=G.d1;by_cases p:B<0
  .go_wp2_with fail;go_ret;exact⟨rfl,G.fb.bel⟩
  by_cases q:256<B
  .go_wp2_with fail;go_ret;exact⟨rfl,G.fb.bel⟩
  have r:256<(n:Int):=om;clear S;go_wp2_with fail;go_ret;exact⟨rfl,G.fb.bel⟩
 have T:Hid (¬(B<0\/256<B\/256<(rows.length:Int))):=by show ¬_;rw[<-hn];exact S
 obtain⟨p,q,r⟩:¬B<0/\¬256<B/\¬256<(n:Int):=om;have K:=zh H;clear H S l;have N:=zh hn;clear hn;go_enter func86,ntmps86;go_wp2_with fail;generalize hw0:(w.alloc (.cells #[P,M,mv] 24)).alloc (.cells #[B,.slice A n c] 74)=w0 at*;have c0:=C.fb.c0;have c1:=C.fb.c1;have c2:=C.fb.c2;go_wp2_with fail;refine(mA _ P M mv Mq (U.below C.fb.bel zr)).mono ?_;rintro e w1 ⟨rfl,J⟩;rw[K.out];have G:=zh (C.on J);clear J;have d0:=G.d0;have d1:=G.d1;clear c0 c1 c2;go_wp2_with fail;clear d0 d1;go_loopw [6] (fun i wr=>∃k:Nat,k<=n/\i=(k:aV)/\Hid (∀j,j<k->((rows j []).length:Int)=B)/\Hid (jQ w wr P M mv B (.slice A n c))) (fun i _=>(n-intOf i).toNat)
 case atStart=>exact⟨0,aZ5 _,rfl,aG fun j I=>aB I om,G.out⟩
 case round=>
  obtain⟨k,hk,rfl,L,D⟩:=hrel;have d0:=D.d0;have d1:=D.d1;by_cases O:k<n
  .obtain⟨m,g,o,x,rfl,d,a,Q⟩:=(V.below D.fb.bel zr).eltA (k:=k) (N.out▸O);by_cases E:(x.length:Int)=B
   .have t:(((x.length:Nat):Int) !=B)=false:=by rw[eB];exact E
    have W:=zh E;clear E;go_wp2_with fail
    go_quiet (fail)
    go_wp2_with fail;exact⟨⟨k+1,om,rfl,aG fun j I=>by
     by_cases e:j=k
     .subst e;rw[Q.out];exact W.out
     .exact L.out j om,aG (D.on (aY _ _))⟩,oI⟩
   .have t:(((x.length:Nat):Int) !=B)=true:=by rw[eC];exact E
    have F:Hid (fB P M Mq B rows=3):=by show _=_;unfold fB;rw[iN (by rw[K.out];decide),iN T.out,iN];rw[show tS B rows=false from BB (k:=k) (N.out▸O) (by rw[Q.out];simpa using E)];decide
    clear E;go_wp2_with fail
    go_quiet (fail)
    go_wp2_with fail;go_ret;exact⟨by rw[F.out];rfl,(D.on (aY _ _)).fb.bel⟩
  .obtain rfl:n=k:=om;have Y:Hid (tS B rows=true):=kM fun j I=>by have:=L.out j (N.out▸I);simpa using this
   clear O hk L;go_wp2_with fail;clear d0 d1;go_loopw [7] (fun i wr=>∃k:Nat,k<=n/\i=(k:aV)/\Hid (∀j,j<k->dH (aF P M) (rows j [])=0)/\Hid (jQ w wr P M mv B (.slice A n c))) (fun i _=>(n-intOf i).toNat)
   case atStart=>exact⟨0,aZ5 _,rfl,aG fun j I=>aB I om,D.out⟩
   case round=>
    obtain⟨k,hk,rfl,L,D⟩:=hrel;have c0:=D.fb.c0;have c1:=D.fb.c1;have c2:=D.fb.c2;have d1:=D.d1;by_cases O:k<n
    .obtain⟨m,g,o,x,rfl,d,a,Q⟩:=(V.below D.fb.bel zr).eltA (k:=k) (N.out▸O);go_wp2_with fail
     go_still_tail 6,kr
     change wpList _ _ _ _ _ wr.drew;go_wp2_with fail;refine(JT _ P M mv _ x (a.si.below (aI _) zr)).mono ?_;rintro e w2 ⟨rfl,b⟩;have Z:=zh (D.on (aC (aI _) b));clear b d c0 c1 c2 d1;by_cases E:dH (aF P M) x=0
     .rw[E];have W:=zh E;clear E;go_wp2_with fail;exact⟨⟨k+1,om,rfl,aG fun j I=>by
       by_cases e:j=k
       .subst e;rw[Q.out];exact W.out
       .exact L.out j om,Z⟩,oI⟩
     .have X:dH (aF P M) x=2:=(tK _ _).resolve_left E;have F:Hid (fB P M Mq B rows=2):=by
       show _=_;unfold fB;rw[iN (by rw[K.out];decide),iN T.out,iP Y.out,iN];rw[show zH (aF P M) rows=false from BB (k:=k) (N.out▸O) (by rw[Q.out,X];rfl)];decide
      rw[X];clear E X;go_wp2_with fail;go_ret;exact⟨by rw[F.out];rfl,Z.fb.bel⟩
    .obtain rfl:n=k:=om;have F:Hid (fB P M Mq B rows=0):=by show _=_;unfold fB;rw[iN (by rw[K.out];decide),iN T.out,iP Y.out,iP];exact kM fun j I=>by have:=L.out j (N.out▸I);simpa using this
     go_wp2_with fail;go_ret;exact⟨by rw[F.out];rfl,D.fb.bel⟩
def FC(x:LI):Nat:=x.findIdx (·!=0)
theorem WI{x:LI}{k:Nat}(hk:k<=x)(C:∀j,j<k->x j 0=0)(A:k<x.length->x k 0≠0):FC x=k:=by
 by_cases B:k<x
 .have A:=A B;unfold FC;rw[List.findIdx_eq B];constructor
  .simp[List.getD,B] at A;simp[A]
  .intro j D;have:=C j D;have E:j<x:=om;simp[List.getD,E] at this;simp[this]
 .obtain rfl:k=x:=om;unfold FC;rw[List.findIdx_eq_length];intro y F;obtain⟨i,hi,rfl⟩:=eI.1 F;have:=C i hi;simp[List.getD,hi] at this;simp[this]
def X6(rows:LL):LI:=rows.map fun r=>(FC r:Int)
def tY(O:aQ)(rows:LL)(x:LI):Nat->LI
 |0=>x
 |i+1=>cQ O (tY O rows x i) (O.neg (x (FC (rows i [])) 0)) (rows i [])
def YM(O:aQ)(rows:LL)(x:LI):LI:=tY O rows x rows.length
theorem DY(O:aQ)(rows:LL)(x:LI):∀i,(tY O rows x i).length=x.length
 |0=>rfl
 |i+1=>by rw[tY,kF,DY O rows x i]
theorem DZ{O:aQ}{q:Int}(hO:O.Lt q)(rows:LL){x:LI}(A:Rng q x):∀i,Rng q (tY O rows x i)
 |0=>A
 |i+1=>by rw[tY];exact(Rows.addTo hO (DZ hO rows A i) _ _).2
def inL(O:aQ)(rows:LL)(x:LI):Bool:=(YM O rows x).all (·==0)
def pM(Φ:Nat->Wo->List Va->Prop)(B:Nat)(w:Wo)(v:Va)(A:List (List Va))(j:Nat):Prop:=
 ∀i,i<j->∃lo hi,B<lo/\hi<=w.heap.size/\(∀r,v.ownBlock=some r->r<lo\/hi<=r)/\Wnd lo hi w (fun w2=>Φ i w2 (A i []))
theorem pM.move{Φ:Nat->Wo->List Va->Prop}{B j:Nat}{w w':Wo}{v v':Va}{E vs':List (List Va)}(h:pM Φ B w v E j)(P:w.heap.size<=w'.heap.size)
 (J:∀p:Addr,B<p.block->p.block<w.heap.size->v.ownBlock≠some p.block->w'.cell? p=w.cell? p)(Q:∀r,v'.ownBlock=some r->v.ownBlock=some r\/w.heap.size<=r)(K:∀i,i<j->vs' i []=E i []):pM Φ B w' v' vs' j:=fun i hi=>by
 obtain⟨lo,L,F,C,D,G⟩:=h i hi;refine⟨lo,L,F,aZ6 C P,fun r O=>?_,fun w2 H=>?_⟩
 .rcases Q r O with A|A
  .exact D r A
  .exact .inr (aZ6 C A)
 .rw[K i hi];refine G w2 fun p M N=>(H p M N).trans (J p om om fun e=>?_);rcases D _ e with I|I<;>omega
theorem pM.snoc{Φ:Nat->Wo->List Va->Prop}{B j lo hi:Nat}{w:Wo}{v:Va}{A:List (List Va)}(h:pM Φ B w v A j)(C:B<lo)(D:hi<=w)(E:∀r,v.ownBlock=some r->r<lo\/hi<=r)
 (F:Wnd lo hi w (fun w2=>Φ j w2 (A j []))):pM Φ B w v A (j+1):=fun i hi=>by
 by_cases e:i=j
 .subst e;exact⟨_,_,C,D,E,F⟩
 .exact h i om
theorem Wnd.move{lo hi:Nat}{w w':Wo}{Φ:Wo->Prop}(h:Wnd lo hi w Φ)(B:∀p:Addr,lo<=p.block->p.block<hi->w'.cell? p=w.cell? p):Wnd lo hi w' Φ:=fun w2 A=>h w2 fun p a b=>(A p a b).trans (B p a b)
structure OF(g:Nat)(lv:Va)(toks:List (List Va))(n:Nat)(dep:Int)(i i' k k':Nat)(Φ:Wo->List Va->Prop):Prop where
 run:∀w,PS w g lv toks i n k->Calls prog 34 #[.pointer g,dep] w (fun e w'=>∃a b c d f,e=.returned (.agg #[a,b,c,d,f])/\(∀u∈[a,b,c,d,f],u.oneCell'=true)/\w.grownBy w' (some g)/\PS w' g lv toks i' n k'/\Wnd w.heap.size w' w' (fun w2=>Φ w2 [a,b,c,d,f]))
def GO(A:Nat)(w:Wo):Nat:=match w.cell? (A 4 none) with|some (.slice _ n _)=>n|_=>0
theorem X7(w:Wo)(g:Nat)(lv:Va)(toks:List (List Va))(i n k:Nat)(h:PS w g lv toks i n k)(hi:i<toks)(t tx:By)(A:(toks i [])[0]?=some (.int .i64 3))(B:(toks i [])[1]?=some (.string tx))(C:(tx.toList==t.toList)=true):
 Calls prog 75 #[.pointer g,.string t] w (fun e w'=>e=.returned (.tuple #[])/\w.grownBy w' (some g)/\PS w' g lv toks (i+1) n k):=by
 have G:=zh (DR w g lv toks i n k h t hi tx A B C);clear A B C h;go_enter func75,ntmps75;go_wp2_with fail;apply G.mono;rintro e w1⟨rfl,D,E⟩;have F:=zh D;have H:=zh E;clear D E;go_wp2;refine bodyPost_end (results_none rfl _ _ _) rfl ?_;exact⟨rfl,F.out,H.out⟩
theorem BD{w w1 w2:Wo}{r row:Option Nat}(h:w.grownBy w1 r)(A:w1.grownBy w2 row)(D:∀b,row=some b->w.heap.size<=b):w.grownBy w2 r:=
 ⟨A.os.trans h.os,A.tape.trans h.tape,A.output.trans h.output,aZ6 h.size A.size,fun b B C=>by rw[A.block b (aY1 B h.size) (fun e=>oA (D b e.symm))];exact h.block b B C⟩
def XBk(nm:By)(v:Va):List Va:=[.int .i64 3,.string nm,.int .i64 0,.slice none 0 0,v]
theorem FA{w wr C D K M:Wo}{g B j n k i:Nat}{lv:Va}{toks:List (List Va)}{nm:By}{A F:OA}{c G:Nat}{H:List (List Va)}{y:List Va}{Φ:Nat->Wo->List Va->Prop}
 (ι:g<B)(σ:w<B)(θ:g<w)(ρ:B<wr)(hB:Blk wr w 50 rC)(V:w.grownBy wr (some g))(Z:H=j)(z:RO (B+1) 50 5 wr (.slice A j c) H)(f:pM Φ B wr (.slice A j c) H j)
 (R:wr.grownBy C (some g))(S:C.drew.grownBy D (some g))(m:PS D g lv toks i n k)(o:Wnd C.drew.heap.size D D (fun w2=>Φ j w2 y))
 (P:Below D D K)(O:K.grownBy M (Value.slice A j c).ownBlock)(X:(Value.slice F (j+1) G).ownBlock=(Value.slice A j c).ownBlock\/(Value.slice F (j+1) G).ownBlock=some K.heap.size)
 (Y:RO (B+1) 50 5 M (.slice F (j+1) G) (H++[y]))(ε:Blk M B 50 (XBk nm (.slice A j c))):
 ∃E,M.setCell (B 4 none) (.slice F (j+1) G)=E/\PS E g lv toks i n k/\Blk E B 50 (XBk nm (.slice F (j+1) G))/\Blk E w 50 rC/\w.grownBy E (some g)/\(H++[y]).length=j+1/\
  RO (B+1) 50 5 E (.slice F (j+1) G) (H++[y])/\pM Φ B E (.slice F (j+1) G) (H++[y]) (j+1):=by
 refine⟨_,rfl,?_⟩;have Q:∀b,(Value.slice A j c).ownBlock=some b->B+1<=b/\b<wr.heap.size:=fun b h=>z.lt h;have N:=aU M B 4 (.slice F (j+1) G);have μ:=R.size;have ν:C.heap.size<=D.heap.size:=S.size;have κ:=P.size;have δ:=O.size;have π:=V.size;generalize hwz:M.setCell (B 4 none) (.slice F (j+1) G)=E at*;have ξ:=N.size;have U:D.grownBy K none:=aP P none;have q:w.grownBy C (some g):=bB V R;have s:w.grownBy C.drew (some g):=bB q (aP (aI C) _);have t:w.grownBy D (some g):=bB s S;have u:w.grownBy K (some g):=BD t U (fun b e=>by cases e);have v:w.grownBy M (some g):=BD u O (fun b e=>oA (Q b e));have x:w.grownBy E (some g):=BD v N (fun b e=>oA (aZ0 e));have d:Blk E w 50 rC:=((((hB.grown R (fun e=>oA (aZ0 e))).belowS (aI C)).grown S (fun e=>oA (aZ0 e))).belowS P|>.grown O (fun e=>oA (Q _ e.symm))).grown N (fun e=>oA (aZ0 e));have W:∀p:Addr,p.block<K.heap.size->p.block≠B->(Value.slice A j c).ownBlock≠some p.block->E.cell? p=K.cell? p:=fun p I J T=>(World.cell?_of_block (N.block _ (aY1 I δ) (fun e=>J (aZ0 e)))).trans (World.cell?_of_block (O.block _ I (fun e=>T e.symm)));have l:∀p:Addr,p.block<wr.heap.size->p.block≠g->K.cell? p=wr.cell? p:=fun p I J=>by rw[P.cell (p:=p) om,World.cell?_of_block (w:=C.drew) (w':=D) (S.block p.block (by show p.block<C.heap.size;omega) (fun e=>J (aZ0 e)))];exact World.cell?_of_block (w:=wr) (w':=C) (R.block p.block I (fun e=>J (aZ0 e)))
 refine⟨?_,?_,d,x,by simp[Z],?_,?_⟩
 .exact((m.grown U (fun b e=>by cases e)).grown O (fun b e=>oA (Q b e))).grown N (fun b e=>oA (aZ0 e))
 .rw[<-hwz];exact ε.set_ 4 _
 .exact Y.grown N (fun b e a=>by have I:=(Y.lt e).1;have:=aZ0 a;omega)
 .refine pM.snoc (lo:=C.heap.size) (hi:=D.heap.size) (f.move om (fun p I J T=>?_) (fun r L=>?_) (fun i hi=>?_)) om om (fun r L=>?_) ?_
  .rw[W p om om T,l p J om]
  .rcases X with e|e
   .exact .inl (e▸L)
   .rw[e] at L;have:=aZ0 L;exact .inr om
  .simp[List.getD,aY2 (by omega:i<H)]
  .rcases X with e|e
   .have:=Q r (e▸L);exact .inl om
   .rw[e] at L;have:=aZ0 L;exact .inr om
  .have ζ:(H++[y]).getD j []=y:=by rw[<-Z];simp[List.getD]
   rw[ζ];refine Wnd.move o fun p I J=>?_;have η:C<=p.block:=I;rw[W p om om (fun e=>oA (Q _ e))];exact P.cell (p:=p) J
theorem E9(w:Wo)(g:Nat)(lv:Va)(toks:List (List Va))(i n k dep m τ Fb:Nat)(nm:By)(h:PS w g lv toks i n k)(hi:i+1<toks.length)(Am:toks i []=fT 1 nm 0 τ)(Ck:toks (i+1) []=fT 3 ⟨#[40]⟩ 0 Fb)(Gf:dep+1<=32)(hk:k+1<=1000)(Gi:m<=100)
 (C O:Nat->Nat)(Φ:Nat->Wo->List Va->Prop)(Dp:C 0=i+2)(Dw:O 0=k+1)
 (Dq:0<m->C 0<toks.length/\∃Ax,(toks (C 0) [])[0]?=some (.int .i64 Ax)/\(Ax==3)=false)
 (Ca:∀j,0<j->j<m->C j<toks.length/\∃a,toks (C j) []=fT 3 ⟨#[44]⟩ 0 a)
 (Ds:∀j,j<m->OF g lv toks n ((dep:Int)+1) (if j=0 then C 0 else C j+1) (C (j+1)) (O j) (O (j+1)) (Φ j))
 (Du:C m<toks.length/\∃a,toks (C m) []=fT 3 ⟨#[41]⟩ 0 a):
 Calls prog 34 #[.pointer g,dep] w (fun e w'=>∃A c,e=.returned (.agg #[.int .i64 3,.string nm,.int .i64 0,.slice none 0 0,.slice A m c])/\w.grownBy w' (some g)/\PS w' g lv toks (C m+1) n (O m)/\
  Wnd w.heap.size w'.heap.size w' (fun w2=>∃J:List (List Va),J.length=m/\RG 5 w2 (.slice A m c) J/\∀j,j<m->Φ j w2 (J j []))):=by
 have Dv:=h.blk.lt;have Fk:=h.small;obtain⟨A,c,rfl,_⟩:=id h.tok;obtain⟨H,rfl,_⟩:=h.tok.elt (k:=i) om;have Cs:=zh (fun(B:Wo) (M:PS B g (.slice (some H) toks.length c) toks i n k)=>XY B g _ toks i n k M om _ (by rw[Am];rfl));have Da:=zh (fun(B:Wo) (M:PS B g (.slice (some H) toks.length c) toks i n k) (t:By)=>DQ B g _ toks i n k M t om 1 (by rw[Am];rfl) dC);have Db:=zh (fun(B:Wo) (M:PS B g (.slice (some H) toks.length c) toks i n k)=>tW B g _ toks i n k M om 1 (by rw[Am];rfl));have Bp:=zh (fun(B:Wo) (F:RG 4 B (.slice (some H) toks.length c) toks)=>F.elt (k:=i) om);rw[Am] at Bp;have De:=zh (fun(B:Wo) (M:PS B g (.slice (some H) toks.length c) toks (i+1) n (k+1))=>DR B g _ toks (i+1) n (k+1) M ⟨#[40]⟩ hi ⟨#[40]⟩ (by rw[Ck];rfl) (by rw[Ck];rfl) (by rw[ByteArray.toList_eq];decide));have Ey:Hid (∀j,j<m->∀B:Wo,PS B g (.slice (some H) toks.length c) toks (C j) n (O j)->Calls prog 72 #[.pointer g,.string ⟨#[41]⟩] B (fun e w'=>e=.returned (.bool false)/\B.grownBy w' (some g)/\PS w' g (.slice (some H) toks.length c) toks (C j) n (O j))):=aG fun j χ B M=>by
  by_cases ε:j=0
  .subst ε;obtain⟨Y,Ax,F,T⟩:=Dq χ;exact DQ B g _ toks _ n _ M _ Y Ax F T
  .obtain⟨Y,a,F⟩:=Ca j om χ;exact X5 B g _ toks _ n _ M _ Y ⟨#[44]⟩ (by rw[F];rfl) (by rw[F];rfl) (by rw[ByteArray.toList_eq,ByteArray.toList_eq];decide)
 have Ex:Hid (∀j,0<j->j<m->∀B:Wo,PS B g (.slice (some H) toks.length c) toks (C j) n (O j)->Calls prog 75 #[.pointer g,.string ⟨#[44]⟩] B (fun e w'=>e=.returned (.tuple #[])/\B.grownBy w' (some g)/\PS w' g (.slice (some H) toks.length c) toks (C j+1) n (O j))):=aG fun j Fh χ B M=>by obtain⟨Y,a,F⟩:=Ca j Fh χ;exact X7 B g _ toks _ n _ M Y _ ⟨#[44]⟩ (by rw[F];rfl) (by rw[F];rfl) (by rw[ByteArray.toList_eq];decide)
 have Em:Hid (∀B:Wo,PS B g (.slice (some H) toks.length c) toks (C m) n (O m)->Calls prog 72 #[.pointer g,.string ⟨#[41]⟩] B (fun e w'=>e=.returned (.bool true)/\B.grownBy w' (some g)/\PS w' g (.slice (some H) toks.length c) toks (C m+1) n (O m))):=aG fun B M=>by obtain⟨Y,a,F⟩:=Du;exact DR B g _ toks _ n _ M _ Y ⟨#[41]⟩ (by rw[F];rfl) (by rw[F];rfl) (by rw[ByteArray.toList_eq];decide)
 have Cr:=zh Ds;have Eu:=zh h;have Cz:Hid (i+1<toks.length):=aG hi;have Ef:=zh Dp;have Ev:=zh Dw;clear h Am Ck hi Dp Dw Dq Ca Ds Du;generalize hL:toks.length=L at*;have Fu:=zh hL;clear hL;go_enter func34,ntmps34;go_upto_region 1 with fail;have Ct:=zh (Blk.new w 50 rC);have Ar:=zh (Eu.grown (row:=none) (aP (aH w (.cells rC.toArray 50)) none) (fun b e=>by cases e));have Cx:=zh (aP (aH w (.cells rC.toArray 50)) (some g));unfold rC at Ct Ar Cx;generalize w.alloc (.cells #[.int .i64 0,.string {data:=#[]},.int .i64 0,.slice none 0 0,.slice none 0 0] 50)=w0 at*;have c1:w0.cell? (g 1 none)=some (i:aV):=Ar.blk.cell 1;have σ:=zh (Ar.grown (row:=none) (aP (aI w0) none) (fun b e=>by cases e));refine ta 8 c1 fun P=>?_;refine tq 0 ?_;refine tq 1 ?_;refine tq 2 ?_;refine tq 3 ?_;refine tq 4 ?_;try simp only[tz]
 refine tn 5 fun K hK=>?_;go_simp;refine(Cs _ σ).mono ?_;rintro e I ⟨rfl,Az,rfl⟩;refine hK.out _ _ (c1) ?_;clear hK K P;intro P;try simp only[tz]
 refine tq 6 ?_;try simp only[tz]
 refine tn 7 fun K hK=>?_;go_simp;refine hK.out _ _ P (fun E=>?_);clear hK K;clear E;refine tw ?_;try simp only[tz]
 clear P;have Ez:=zh (Ar.drewN (1+Az));have Ek:=zh (Ct.belowS (aY w0 (1+Az)));have Er:=zh (bB Cx (aP (aY w0 (1+Az)) (some g)));generalize w0.drewN (1+Az)=w1 at*;clear c1 σ;go_wp2_with fail;refine(Da.out w1 Ez _).mono ?_;rintro e w2 ⟨rfl,Cc,Dx⟩;have Ei:=zh (Ek.grown Cc (fun e=>by have:=aZ0 e;omega));have En:=zh (bB Er Cc);have Dg:=zh Dx;clear Cc Dx;go_wp2_with fail;refine(Db.out w2 Dg).mono ?_;rintro e ζ ⟨rfl,Ay,rfl⟩;have θ:=zh (Dg.drewN Ay);have Ej:=zh (Ei.belowS (aY _ Ay));have Eo:=zh (bB En (aP (aY w2 Ay) (some g)));generalize w2.drewN Ay=ζ at*;have c0:ζ.cell? g=some (.slice (some H) L c):=θ.blk.cell 0;have c1:ζ.cell? (g 1 none)=some (i:aV):=θ.blk.cell 1;have c3:ζ.cell? (g 3 none)=some (k:aV):=θ.blk.cell 3;have Dn:ζ.frozen? (g 1 none)=false:=θ.blk.frozen 1;have Do:ζ.frozen? (g 3 none)=false:=θ.blk.frozen 3;have φ:decide ((32:Int)<(dep:Int))=false:=dG om;have G:decide (32<dep)=false:=dG om;have Fy:((k:Int)==1024)=false:=by rw[eA];omega
 go_upto_region 12 with fail;obtain⟨R,δ⟩:=xE ((ζ.setCell (g 3 none) (.int .i64 ((k:Int)+1))).setCell (g 1 none) (.int .i64 ((i:Int)+1)));have At:ζ.grownBy R (some g):=by rw[δ];exact aS (p:=(g 1 none)) (aS (p:=(g 3 none)) (World.grownBy.refl _ _) (.inl rfl) _) (.inl rfl) _
 have Dt:Blk R g 86 [.slice (some H) L c,.int .i64 ((i+1:Nat):Int),(n:aV),.int .i64 ((k+1:Nat):Int)]:=by rw[δ];exact(θ.blk.set_ 3 _).set_ 1 _
 have Bh:=zh (θ.kept At Dt ⟨by have:=Cz.out;have:=Fk.1;omega,om,om⟩);have Cu:=zh (Ej.grown At (fun e=>by have:=aZ0 e;omega));have Ep:=zh (bB Eo At);rw[<-δ];clear δ At Dt c0 c1 c3 Dn Do;have c0:R.cell? g=some (.slice (some H) L c):=Bh.blk.cell 0;obtain⟨Fx,Dr,Ea,Aw⟩:=Bp.out R Bh.tok;obtain rfl:=aZ0 Dr;have t0:=Ea _ rfl;have An:=Aw 0 _ rfl;have t2:=Aw 1 _ rfl;have t3:=Aw 2 _ rfl;have Fc:(i:Int)<(L:Int):=by have:=Cz.out;omega
 have Fz:decide ((i:Int)<(L:Int))=true:=dE Fc;clear Dr Ea Aw;go_upto_region 13 with fail;have Bo:=zh (Blk.new R 134 [.int .i64 1,.string nm,.int .i64 0,(τ:aV)]);have Dh:=zh (Bh.grown (row:=none) (aP (aH R (.cells [.int .i64 1,.string nm,.int .i64 0,(τ:aV)].toArray 134)) none) (fun b e=>by cases e));have Cv:=zh (Cu.alloc (.cells [.int .i64 1,.string nm,.int .i64 0,(τ:aV)].toArray 134));have Cy:=zh (bB Ep (aP (aH R (.cells [.int .i64 1,.string nm,.int .i64 0,(τ:aV)].toArray 134)) (some g)));have Fj:=Cu.lt;have Gj:Hid (w.heap.size<R.heap.size):=aG Fj;generalize R.alloc (.cells #[.int .i64 1,.string nm,.int .i64 0,τ] 134)=Ee at*;clear c0 t0 An t2 t3;have An:Ee.cell? ⟨R.heap.size,1,none⟩=some (.string nm):=Bo.cell 1;go_wp2_with fail;refine(De.out Ee Dh).mono ?_;rintro e V ⟨rfl,Au,Dy⟩;have Di:=zh Dy;have N:=zh (Cv.grown Au (fun e=>by have:=aZ0 e;omega));have Dk:=zh (Bo.grown Au (fun e=>by have:=aZ0 e;omega));have Be:=zh (bB Cy Au);have Bs:Hid (w.heap.size<V.heap.size):=aG (by have:=N.lt;omega);clear An Au Dy;have An:V.cell? ⟨R.heap.size,1,none⟩=some (.string nm):=Dk.cell 1;go_upto_region 18 with fail;have Ce:g<V.heap.size:=by have:=Be.size;omega
 have Dl:=zh (Blk.new V 50 [.int .i64 3,.string nm,.int .i64 0,.slice none 0 0,.slice none 0 0]);have Dj:=zh (Di.grown (row:=none) (aP (aH V (.cells [.int .i64 3,.string nm,.int .i64 0,.slice none 0 0,.slice none 0 0].toArray 50)) none) (fun b e=>by cases e));have El:=zh (N.alloc (.cells [.int .i64 3,.string nm,.int .i64 0,.slice none 0 0,.slice none 0 0].toArray 50));have Et:=zh (bB Be (aP (aH V (.cells [.int .i64 3,.string nm,.int .i64 0,.slice none 0 0,.slice none 0 0].toArray 50)) (some g)));have Fa:Hid ((V.alloc (.cells [.int .i64 3,.string nm,.int .i64 0,.slice none 0 0,.slice none 0 0].toArray 50)).heap.size=V.heap.size+1):=aG (by show(V.heap.push _).size=_;rw[Array.size_push]);generalize V.alloc (.cells #[.int .i64 3,.string nm,.int .i64 0,.slice none 0 0,.slice none 0 0] 50)=Gl at*;clear An Dk Bo Di N Be De Bp Db Da Cs Dh Cv Cy;obtain⟨D,Co⟩:=xE V.heap.size;rw[<-Co] at Dl Fa Bs Ce|-;have Fv:=zh Co;clear Co;have Ed:=Bs.out;rw[<-Ev.out,show i+1+1=C 0 from Ef.out.symm] at Dj;go_loopw [] (fun wr=>∃(j:Nat) (A:OA) (Bt:Nat) (J:List (List Va)),j<=m/\Hid (PS wr g (.slice (some H) L c) toks (C j) n (O j))/\Hid (Blk wr D 50 [.int .i64 3,.string nm,.int .i64 0,.slice none 0 0,.slice A j Bt])/\Hid (Blk wr w.heap.size 50 [.int .i64 0,.string {data:=#[]},.int .i64 0,.slice none 0 0,.slice none 0 0])/\Hid (w.grownBy wr (some g))/\Hid (J.length=j)/\Hid (RO (D+1) 50 5 wr (.slice A j Bt) J)/\Hid (pM Φ D wr (.slice A j Bt) J j)) (fun wr=>m-GO D wr)
 case atStart=>exact⟨0,none,0,[],aZ5 _,Dj,Dl,El,Et,rfl,RO.nil _ _ _ _,fun i hi=>aB hi (aY5 _)⟩
 case round=>
  obtain⟨j,A,c',J,Gh,Df,Ab,Bb,Bd,ι,S,Ba⟩:=hrel;have Ec:=Ab.lt;by_cases Av:j<m
  .go_wp2_with fail;refine(Ey j Av wr Df).mono ?_;rintro e Q ⟨rfl,U,Aj⟩;have As:=zh Aj;have ω:=zh (Ab.grown U (fun e=>by have:=aZ0 e;omega));have ρ:=zh U;clear U Aj;have x4:Q.cell? (D 4 none)=some (.slice A j c'):=ω.cell 4;by_cases ε:j=0
   .have Fe:decide ((0:Int)<(j:Int))=false:=dG om;have Ff:decide (0<j)=false:=dG om;have Bj:Hid (PS Q g (.slice (some H) L c) toks (if j=0 then C 0 else C j+1) n (O j)):=aG (by rw[iP ε,<-ε];exact As.out);have Ft:=zh ε;clear ε;go_wp2_with fail;have Fl:IntKind.i64.wrap ((dep:Int)+1)=(dep:Int)+1:=IntWalk.i64_in _ om;have Bm:=zh (fun b (Cb:(Value.slice A j c').ownBlock=some b)=>S.lt Cb);have Br:Hid (D+1<=Q.heap.size):=aG (by have:=ρ.size;omega);have Bl:=zh (fun(I π:Wo) (F:Q.drew.grownBy I (some g)) (T:Below I.heap.size I π)=>(((S.grown ρ (fun b e G=>by have X:=(S.lt e).1;have:=aZ0 G;omega)).below (aI Q) zr).grown F (fun b e G=>by have X:=(S.lt e).1;have:=aZ0 G;omega)).below T zr);have σ:Hid (PS Q.drew g (.slice (some H) L c) toks (if j=0 then C 0 else C j+1) n (O j)):=aG (Bj.grown (row:=none) (aP (aI Q) none) (fun b e=>by cases e));have Bq:=zh (ω.belowS (aI Q));refine da 10 x4 fun P=>?_;refine dq 0 ?_;refine dq 1 ?_;refine dq 2 ?_;refine dq 3 ?_;refine dq 4 ?_;try simp only[tz]
    refine dn 5 fun K hK=>?_;go_simp;refine((Cr j Av).run _ σ).mono ?_;rintro e I ⟨d,f,l,o,s,rfl,Ai,ν,Ak,Al⟩;have η:=zh ν;have Bi:=zh Ak;have Bk:=zh Al;have Bg:=zh Ai;have Aa:=zh (Bq.grown ν (fun e=>by have:=aZ0 e;omega));clear Ai ν Ak Al;have Aq:I.cell? (D 4 none)=some (.slice A j c'):=Aa.cell 4;refine hK.out _ _ (fun _=>Aq) (fun E=>?_);clear hK K;replace P:=E dC;clear E;try simp only[tz]
    refine dp 6 fun K hK=>?_;go_simp;obtain⟨π,Ad,φ,G,Ae,Ag⟩:=aR I 50 [d,f,l,o,s];rw[φ,G];have Bc:=zh Ae;have N:=zh Ag;have Es:Hid (Ad=I.heap.size):=aG G.symm;clear φ G Ae Ag;have Cp:=aE N.out Aq;refine hK.out _ _ (fun _=>Cp) (fun E=>?_);clear hK K;replace P:=E dC;clear E;try simp only[tz]
    refine dp 7 fun K hK=>?_;refine kQ rfl 50 48 5 80 _ underlying48 infoExpr rfl dC dC _ _ rfl (D+1) _ J rfl (by have:=Bl.out I π η N.out;exact this) Ad 1 [d,f,l,o,s] rfl rfl (fun q u Cl=>(Bc.cell q).trans Cl) Bg.out (by have:=ι.out;omega) (by have F:=N.size;have T:=η.size;have X:=Br.out;have δ:Q.drew.heap.size=Q.heap.size:=rfl;omega) ?_;intro Fs Ao Z μ ξ;obtain⟨ψ,Ac,rfl⟩:=Z.form';have Ah:(J++[[d,f,l,o,s]]).length=j+1:=(by simp[ι.out]);rw[Ah] at Z ξ|-;have κ:=zh ((Aa.belowS N).grown μ (fun e=>by have:=(Bm _ e.symm).1;omega));have Cq:Ao.cell? (D 4 none)=some (.slice A j c'):=κ.cell 4;have Fg:Ao.frozen? (D 4 none)=false:=κ.frozen 4;have Bn:=zh (FA (nm:=nm) Ce Ed Dv Ec Bb Bd ι S Ba ρ η Bi Bk N μ ξ Z κ);clear Z μ ξ Ah;refine hK.out _ _ (fun _=>Cq) (fun E=>?_);clear hK K;replace P:=E dC;clear E;try simp only[tz]
    refine dq 8 ?_;try simp only[tz]
    refine dn 9 fun K hK=>?_;go_simp;refine hK.out _ _ (fun h=>aB rfl h) (fun E=>?_);clear hK K;clear E;refine dw ?_;try simp only[tz]
    clear P;obtain⟨Ap,Cm,Bz,Af,Bv,Bw,Cf,Bx,Bu⟩:=Bn.out;rw[Cm];have hn1:GO D Ap=j+1:=by unfold GO;rw[show Ap.cell? (D 4 none)=some (.slice ψ (j+1) Ac) from Af.cell 4]
    have Ci:GO D wr=j:=by unfold GO;rw[show wr.cell? (D 4 none)=some (.slice A j c') from Ab.out.cell 4]
    go_wp2_with fail;exact⟨⟨j+1,ψ,Ac,J++[[d,f,l,o,s]],om,Bz,Af,Bv,Bw,Cf,Bx,Bu⟩,by rw[hn1,Ci];omega⟩
   .have Fe:decide ((0:Int)<(j:Int))=true:=dE om;have Ff:decide (0<j)=true:=dE om;have Ew:=zh (Ex j om Av Q As);go_wp2_with fail;refine Ew.mono ?_;rintro e w9 ⟨rfl,Cd,Dz⟩;have Bj:Hid (PS w9 g (.slice (some H) L c) toks (if j=0 then C 0 else C j+1) n (O j)):=aG (by rw[iN ε];exact Dz);have Dm:=zh (ω.grown Cd (fun e=>by have:=aZ0 e;omega));have Bf:=zh (bB ρ Cd);clear Cd Dz ε x4;have x4:w9.cell? (D 4 none)=some (.slice A j c'):=Dm.cell 4;go_wp2_with fail;have Fl:IntKind.i64.wrap ((dep:Int)+1)=(dep:Int)+1:=IntWalk.i64_in _ om;have Bm:=zh (fun b (Cb:(Value.slice A j c').ownBlock=some b)=>S.lt Cb);have Br:Hid (D+1<=w9.heap.size):=aG (by have:=Bf.size;omega);have Bl:=zh (fun(I π:Wo) (F:w9.drew.grownBy I (some g)) (T:Below I.heap.size I π)=>(((S.grown Bf (fun b e G=>by have X:=(S.lt e).1;have:=aZ0 G;omega)).below (aI w9) zr).grown F (fun b e G=>by have X:=(S.lt e).1;have:=aZ0 G;omega)).below T zr);have σ:Hid (PS w9.drew g (.slice (some H) L c) toks (if j=0 then C 0 else C j+1) n (O j)):=aG (Bj.grown (row:=none) (aP (aI w9) none) (fun b e=>by cases e));have Bq:=zh (Dm.belowS (aI w9));refine da 10 x4 fun P=>?_;refine dq 0 ?_;refine dq 1 ?_;refine dq 2 ?_;refine dq 3 ?_;refine dq 4 ?_;try simp only[tz]
    refine dn 5 fun K hK=>?_;go_simp;refine((Cr j Av).run _ σ).mono ?_;rintro e I ⟨d,f,l,o,s,rfl,Ai,ν,Ak,Al⟩;have η:=zh ν;have Bi:=zh Ak;have Bk:=zh Al;have Bg:=zh Ai;have Aa:=zh (Bq.grown ν (fun e=>by have:=aZ0 e;omega));clear Ai ν Ak Al;have Aq:I.cell? (D 4 none)=some (.slice A j c'):=Aa.cell 4;refine hK.out _ _ (fun _=>Aq) (fun E=>?_);clear hK K;replace P:=E dC;clear E;try simp only[tz]
    refine dp 6 fun K hK=>?_;go_simp;obtain⟨π,Ad,φ,G,Ae,Ag⟩:=aR I 50 [d,f,l,o,s];rw[φ,G];have Bc:=zh Ae;have N:=zh Ag;have Es:Hid (Ad=I.heap.size):=aG G.symm;clear φ G Ae Ag;have Cp:=aE N.out Aq;refine hK.out _ _ (fun _=>Cp) (fun E=>?_);clear hK K;replace P:=E dC;clear E;try simp only[tz]
    refine dp 7 fun K hK=>?_;refine kQ rfl 50 48 5 80 _ underlying48 infoExpr rfl dC dC _ _ rfl (D+1) _ J rfl (by have:=Bl.out I π η N.out;exact this) Ad 1 [d,f,l,o,s] rfl rfl (fun q u Cl=>(Bc.cell q).trans Cl) Bg.out (by have:=ι.out;omega) (by have F:=N.size;have T:=η.size;have X:=Br.out;have δ:w9.drew.heap.size=w9.heap.size:=rfl;omega) ?_;intro Fs Ao Z μ ξ;obtain⟨ψ,Ac,rfl⟩:=Z.form';have Ah:(J++[[d,f,l,o,s]]).length=j+1:=(by simp[ι.out]);rw[Ah] at Z ξ|-;have κ:=zh ((Aa.belowS N).grown μ (fun e=>by have:=(Bm _ e.symm).1;omega));have Cq:Ao.cell? (D 4 none)=some (.slice A j c'):=κ.cell 4;have Fg:Ao.frozen? (D 4 none)=false:=κ.frozen 4;have Bn:=zh (FA (nm:=nm) Ce Ed Dv Ec Bb Bd ι S Ba Bf η Bi Bk N μ ξ Z κ);clear Z μ ξ Ah;refine hK.out _ _ (fun _=>Cq) (fun E=>?_);clear hK K;replace P:=E dC;clear E;try simp only[tz]
    refine dq 8 ?_;try simp only[tz]
    refine dn 9 fun K hK=>?_;go_simp;refine hK.out _ _ (fun h=>aB rfl h) (fun E=>?_);clear hK K;clear E;refine dw ?_;try simp only[tz]
    clear P;obtain⟨Ap,Cm,Bz,Af,Bv,Bw,Cf,Bx,Bu⟩:=Bn.out;rw[Cm];have hn1:GO D Ap=j+1:=by unfold GO;rw[show Ap.cell? (D 4 none)=some (.slice ψ (j+1) Ac) from Af.cell 4]
    have Ci:GO D wr=j:=by unfold GO;rw[show wr.cell? (D 4 none)=some (.slice A j c') from Ab.out.cell 4]
    go_wp2_with fail;exact⟨⟨j+1,ψ,Ac,J++[[d,f,l,o,s]],om,Bz,Af,Bv,Bw,Cf,Bx,Bu⟩,by rw[hn1,Ci];omega⟩
  .obtain rfl:m=j:=om;go_wp2_with fail;refine(Em wr Df).mono ?_;rintro e Q ⟨rfl,U,Aj⟩;have As:=zh Aj;have ω:=zh (Ab.grown U (fun e=>by have:=aZ0 e;omega));have Cw:=zh (Bb.grown U (fun e=>by have:=aZ0 e;omega));have ρ:=zh (bB Bd U);have Dc:=zh (S.grown U (fun b e G=>by have X:=(S.lt e).1;have:=aZ0 G;omega));have Eg:=zh (Ba.move (w':=Q) (v':=.slice A m c') (vs':=J) U.size (fun p F T X=>World.cell?_of_block (U.block _ T (fun e=>by have:=aZ0 e;omega))) (fun r Cj=>.inl Cj) (fun i hi=>rfl));have Fw:Hid (D<Q.heap.size):=aG (by have:=U.size;omega);clear U Aj;obtain⟨x0,x1,x2,x3,x4,Ga,Dn,Gb,Do,Gc⟩:=Cw.five;obtain⟨Gm,Gn,Gp,Gq,Gr,_,_,_,_,_⟩:=ω.five;go_wp2_with fail;obtain⟨w9,Fi,W⟩:=zL (x:=.int .i64 3) (y:=.string nm) (z:=.int .i64 0) (u:=.slice none 0 0) (v:=.slice A m c') Cw.out;rw[Fi];have Fm:=W.c0;have Fo:=W.c1;have Fp:=W.c2;have Fq:=W.c3;have Fr:=W.c4;refine bodyPost_ret (v:=.agg #[.int .i64 3,.string nm,.int .i64 0,.slice none 0 0,.slice A m c']) (by simp[results,results34,go_sem,Fm,Fo,Fp,Fq,Fr]) rfl ?_;refine⟨A,c',rfl,BD ρ W.gr (fun b e=>by have:=aZ0 e;omega),As.grown W.gr (fun b e=>by have:=aZ0 e;omega),?_⟩;have Gk:=Bs.out;have Dd:=Dc.grown W.gr (fun b e G=>by have X:=(Dc.lt e).1;have:=aZ0 G;omega);have Eh:=Eg.move (w':=w9) (v':=.slice A m c') (vs':=J) W.gr.size (fun p F T X=>World.cell?_of_block (W.gr.block _ T (fun e=>by have:=aZ0 e;omega))) (fun r Cj=>.inl Cj) (fun i hi=>rfl);intro w2 Eb;refine⟨J,ι.out,?_,fun j χ=>?_⟩
   .exact Dd.rg.moved fun p M Y=>Eb p (by have:=(Dd.lt M).1;omega) Y
   .obtain⟨lo,Gg,F,T,X,δ⟩:=Eh j χ;exact δ w2 fun p Gd Ge=>Eb p om om
