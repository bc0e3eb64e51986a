/- Texts of a claim, merged. -/
import Derived.Test.YtpfhoemohibniaaGreatDoorZA9
set_option maxRecDepth 100000
set_option maxHeartbeats 32000000
namespace Go.Proofs.YtpfhoemohibniaaGreatDoor
open Go.RowKit
def eG(O:aO)(x:LI)(rows:LL)(n:Nat):Nat->LI
 |0=>List.replicate n 0
 |i+1=>if x.getD i 0≠0 then cH O (eG O x rows n i) (x.getD i 0) (rows.getD i []) else eG O x rows n i
def gP(O:aO)(x:LI)(rows:LL)(n:Nat):LI:=eG O x rows n (min rows.length x.length)
theorem fX(O:aO)(x:LI)(rows:LL)(n:Nat):∀i,(eG O x rows n i).length=n
 |0=>by simp[eG]
 | i + 1 => by rw [eG]; split
               . rw[iK,fX O x rows n i]
               . exact fX O x rows n i
theorem jR{O:aO}{q:Int}(hO:O.Lt q)(x:LI)(rows:LL)(n:Nat):∀i,Rng q (eG O x rows n i)
 |0=>Rng.zero hO.pos n
 |i+1=>by
  rw[eG];split
  .exact(Rows.addTo hO (jR hO x rows n i) _ _).2
  .exact jR hO x rows n i
structure fU(w w0:World)(P M:Int)(mv:Value)(cols:Int)(rv:Value):Prop where
 fb:cV w w0 P M mv
 mb:Blk w0 (w.heap.size+1) 86 [.int .i64 cols,rv]
theorem fU.mk'(w:World)(P M:Int)(mv:Value)(A:Int)(B:Value):fU w ((w.alloc (.cells #[.int .i64 P,.int .i64 M,mv] 24)).alloc (.cells #[.int .i64 A,B] 86)) P M mv A B:=
 ⟨(cV.mk' w P M mv).on (aF _ _),by have:=Blk.new (w.alloc (.cells #[.int .i64 P,.int .i64 M,mv] 24)) 86 [.int .i64 A,B];rw[World.size_alloc] at this;exact this⟩
theorem fU.on{w w0 w1:World}{P M A:Int}{mv B:Value}(h:fU w w0 P M mv A B)(hb:Below w0.heap.size w0 w1):fU w w1 P M mv A B:=⟨h.fb.on hb,h.mb.belowS hb⟩
theorem fU.d0{w w0:World}{P M A:Int}{mv B:Value}(h:fU w w0 P M mv A B):w0.cell? ⟨w.heap.size+1,0,none⟩=some (.int .i64 A):=h.mb.cell 0
theorem fU.d1{w w0:World}{P M B:Int}{mv A:Value}(h:fU w w0 P M mv B A):w0.cell? ⟨w.heap.size+1,1,none⟩=some A:=h.mb.cell 1
def qP(A:Int)(rows:LL):Bool:=rows.all fun r=>(r.length:Int)==A
def vT(q:Int)(rows:LL):Bool:=rows.all fun r=>cM q r==0
noncomputable def dK(P M:Int)(Mod:LI)(A:Int)(rows:LL):Int:=
 if cN P M Mod≠0 then cN P M Mod else if A<0\/256<A\/256<(rows.length:Int) then 3 else if qP A rows=true then(if vT (aC P M) rows=true then 0 else 2) else 3
theorem iT{p:LI->Bool}{rows:LL}(h:∀j,j<rows.length->p (rows.getD j [])=true):rows.all p=true:=by rw[List.all_eq_true];intro x A;obtain⟨i,hi,rfl⟩:=List.mem_iff_getElem.1 A;have:=h i hi;simpa[List.getD,hi] using this
theorem xN{p:LI->Bool}{rows:LL}{k:Nat}(A:k<rows.length)(h:p (rows.getD k [])=false):rows.all p=false:=by rw[List.all_eq_false];refine⟨rows[k],aY6 A,?_⟩;simp[List.getD,A] at h;simp[h]
theorem qJ(q:Int)(l:LI):cM q l=0\/cM q l=2:=by unfold cM;split<;>simp
theorem xD(w:World)(P M B:Int)(mv g:Value)(Mod:LI)(rows:LL)(hm:SI w mv Mod)(R:SS w g rows):
  Calls Tryz.prog 79 #[.agg #[.int .i64 P,.int .i64 M,mv],.agg #[.int .i64 B,g]] w (iJ w (dK P M Mod B rows)):=by
 have U:=zh hm;clear hm;obtain⟨A,c,rfl,R⟩:=R;have t:=R.len;have V:=zh (show SS w (.slice A rows.length c) rows from⟨A,c,rfl,R⟩);clear R;obtain⟨n,hn⟩:∃n,n=rows.length:=⟨_,rfl⟩
 have C:=zh (fU.mk' w P M mv B (.slice A n c));rw[<-hn] at V t|-;by_cases H:cN P M Mod=0
 case neg=>
  have F:Hid (dK P M Mod B rows=cN P M Mod):=by show _=_;unfold dK;rw[if_pos H]
  have hb:(cN P M Mod !=0)=true:=by rw[bne_iff_ne];exact H
  clear H hn;go_enter Tryz.func79,Tryz.ntmps79;go_wp2_with fail;generalize hw0:(w.alloc (.cells #[.int .i64 P,.int .i64 M,mv] 24)).alloc (.cells #[.int .i64 B,.slice A n c] 86)=w0 at*;have c0:=C.fb.c0;have c1:=C.fb.c1;have c2:=C.fb.c2;go_wp2_with fail;refine(jY _ P M mv Mod (U.below C.fb.bel zr)).mono ?_;rintro e w1 ⟨rfl,J⟩;have l:=zh (aA C.fb.bel J);clear J;go_wp2_with fail;go_ret;exact⟨by rw[F.out];rfl,l.out⟩
 have m:=zh H;by_cases S:B<0\/256<B\/256<(n:Int)
 .have F:Hid (dK P M Mod B rows=3):=by show _=_;unfold dK;rw[if_neg (by rw[H];decide),<-hn,if_pos S]
  rw[F.out];have K:=zh H;clear H hn;go_enter Tryz.func79,Tryz.ntmps79;go_wp2_with fail;generalize hw0:(w.alloc (.cells #[.int .i64 P,.int .i64 M,mv] 24)).alloc (.cells #[.int .i64 B,.slice A n c] 86)=w0 at*;have c0:=C.fb.c0;have c1:=C.fb.c1;have c2:=C.fb.c2;go_wp2_with fail;refine(jY _ P M mv Mod (U.below C.fb.bel zr)).mono ?_;rintro e w1 ⟨rfl,J⟩;rw[K.out];have G:=zh (C.on J);clear J;have d0:=G.d0;have d1:=G.d1;by_cases q:B<0
  .go_wp2_with fail;go_ret;exact⟨rfl,G.fb.bel⟩
  by_cases r:256<B
  .go_wp2_with fail;go_ret;exact⟨rfl,G.fb.bel⟩
  have s:256<(n:Int):=by omega
  clear S;go_wp2_with fail;go_ret;exact⟨rfl,G.fb.bel⟩
 have T:Hid (¬(B<0\/256<B\/256<(rows.length:Int))):=by show ¬_;rw[<-hn];exact S
 obtain⟨q,r,s⟩:¬B<0/\¬256<B/\¬256<(n:Int):=by omega
 have K:=zh H;clear H S m;have N:=zh hn;clear hn;go_enter Tryz.func79,Tryz.ntmps79;go_wp2_with fail;generalize hw0:(w.alloc (.cells #[.int .i64 P,.int .i64 M,mv] 24)).alloc (.cells #[.int .i64 B,.slice A n c] 86)=w0 at*;have c0:=C.fb.c0;have c1:=C.fb.c1;have c2:=C.fb.c2;go_wp2_with fail;refine(jY _ P M mv Mod (U.below C.fb.bel zr)).mono ?_;rintro e w1 ⟨rfl,J⟩;rw[K.out];have G:=zh (C.on J);clear J;have d0:=G.d0;have d1:=G.d1;clear c0 c1 c2;go_wp2_with fail;clear d0 d1;go_loopw [6] (fun i wr=>∃k:Nat,k<=n/\i=.int .i64 (k:Int)/\Hid (∀j,j<k->((rows.getD j []).length:Int)=B)/\Hid (fU w wr P M mv B (.slice A n c))) (fun i _=>(n-intOf i).toNat)
 case atStart=>exact⟨0,aZ5 _,rfl,aD fun j I=>absurd I (by omega),G.out⟩
 case round=>
  obtain⟨k,f,rfl,L,D⟩:=hrel;have d0:=D.d0;have d1:=D.d1;by_cases O:k<n
  .obtain⟨o,h,p,x,rfl,d,a,Q⟩:=(V.below D.fb.bel zr).eltA (k:=k) (by rw[<-N.out];exact O);by_cases E:(x.length:Int)=B
   .have u:(((x.length:Nat):Int) !=B)=false:=by rw[bne_eq_false_iff_eq];exact E
    have W:=zh E;clear E;go_wp2_with fail
    go_quiet (fail)
    go_wp2_with fail;exact⟨⟨k+1,by omega,rfl,aD fun j I=>by
     by_cases e:j=k
     .subst e;rw[Q.out];exact W.out
     .exact L.out j (by omega),aD (D.on (bI _ _))⟩,by simp only[intOf];omega⟩
   .have u:(((x.length:Nat):Int) !=B)=true:=by rw[bne_iff_ne];exact E
    have F:Hid (dK P M Mod B rows=3):=by show _=_;unfold dK;rw[if_neg (by rw[K.out];decide),if_neg T.out,if_neg];rw[show qP B rows=false from xN (k:=k) (by rw[<-N.out];exact O) (by rw[Q.out];simpa using E)];decide
    clear E;go_wp2_with fail
    go_quiet (fail)
    go_wp2_with fail;go_ret;exact⟨by rw[F.out];rfl,(D.on (bI _ _)).fb.bel⟩
  .obtain rfl:n=k:=by omega
   have Y:Hid (qP B rows=true):=iT fun j I=>by have:=L.out j (by rw[N.out];exact I);simpa using this
   clear O f L;go_wp2_with fail;clear d0 d1;go_loopw [7] (fun i wr=>∃k:Nat,k<=n/\i=.int .i64 (k:Int)/\Hid (∀j,j<k->cM (aC P M) (rows.getD j [])=0)/\Hid (fU w wr P M mv B (.slice A n c))) (fun i _=>(n-intOf i).toNat)
   case atStart=>exact⟨0,aZ5 _,rfl,aD fun j I=>absurd I (by omega),D.out⟩
   case round=>
    obtain⟨k,f,rfl,L,D⟩:=hrel;have c0:=D.fb.c0;have c1:=D.fb.c1;have c2:=D.fb.c2;have d1:=D.d1;by_cases O:k<n
    .obtain⟨o,h,p,x,rfl,d,a,Q⟩:=(V.below D.fb.bel zr).eltA (k:=k) (by rw[<-N.out];exact O);go_wp2_with fail
     go_still_tail 6,(by kernel_rfl)
     change wpList _ _ _ _ _ wr.drew;go_wp2_with fail;refine(FS _ P M mv _ x (a.si.below (aH _) zr)).mono ?_;rintro e w2 ⟨rfl,b⟩;have Z:=zh (D.on (aA (aH _) b));clear b d c0 c1 c2 d1;by_cases E:cM (aC P M) x=0
     .rw[E];have W:=zh E;clear E;go_wp2_with fail;exact⟨⟨k+1,by omega,rfl,aD fun j I=>by
       by_cases e:j=k
       .subst e;rw[Q.out];exact W.out
       .exact L.out j (by omega),Z⟩,by simp only[intOf];omega⟩
     .have X:cM (aC P M) x=2:=(qJ _ _).resolve_left E;have F:Hid (dK P M Mod B rows=2):=by
       show _=_;unfold dK;rw[if_neg (by rw[K.out];decide),if_neg T.out,if_pos Y.out,if_neg];rw[show vT (aC P M) rows=false from xN (k:=k) (by rw[<-N.out];exact O) (by rw[Q.out,X];rfl)];decide
      rw[X];clear E X;go_wp2_with fail;go_ret;exact⟨by rw[F.out];rfl,Z.fb.bel⟩
    .obtain rfl:n=k:=by omega
     have F:Hid (dK P M Mod B rows=0):=by show _=_;unfold dK;rw[if_neg (by rw[K.out];decide),if_neg T.out,if_pos Y.out,if_pos];exact iT fun j I=>by have:=L.out j (by rw[N.out];exact I);simpa using this
     go_wp2_with fail;go_ret;exact⟨by rw[F.out];rfl,D.fb.bel⟩
def CC(x:LI):Nat:=x.findIdx (·!=0)
theorem Q0{x:LI}{k:Nat}(G:k<=x.length)(C:∀j,j<k->x.getD j 0=0)(A:k<x.length->x.getD k 0≠0):CC x=k:=by
 by_cases B:k<x.length
 .have A:=A B;unfold CC;rw[List.findIdx_eq B];constructor
  .simp[List.getD,B] at A;simp[A]
  .intro j D;have:=C j D;have E:j<x.length:=by omega
   simp[List.getD,E] at this;simp[this]
 .obtain rfl:k=x.length:=by omega
  unfold CC;rw[List.findIdx_eq_length];intro y F;obtain⟨i,hi,rfl⟩:=List.mem_iff_getElem.1 F;have:=C i hi;simp[List.getD,hi] at this;simp[this]
def JX(rows:LL):LI:=rows.map fun r=>(CC r:Int)
def qW(O:aO)(rows:LL)(x:LI):Nat->LI
 |0=>x
 |i+1=>cH O (qW O rows x i) (O.neg (x.getD (CC (rows.getD i [])) 0)) (rows.getD i [])
def SX(O:aO)(rows:LL)(x:LI):LI:=qW O rows x rows.length
theorem AJ(O:aO)(rows:LL)(x:LI):∀i,(qW O rows x i).length=x.length
 |0=>rfl
 |i+1=>by rw[qW,iK,AJ O rows x i]
theorem AK{O:aO}{q:Int}(hO:O.Lt q)(rows:LL){x:LI}(A:Rng q x):∀i,Rng q (qW O rows x i)
 |0=>A
 |i+1=>by rw[qW];exact(Rows.addTo hO (AK hO rows A i) _ _).2
def inL(O:aO)(rows:LL)(x:LI):Bool:=(SX O rows x).all (·==0)
def nG(Φ:Nat->World->List Value->Prop)(B:Nat)(w:World)(v:Value)(A:List (List Value))(j:Nat):Prop:=
 ∀i,i<j->∃lo hi,B<lo/\hi<=w.heap.size/\(∀r,v.ownBlock=some r->r<lo\/hi<=r)/\Wnd lo hi w (fun w2=>Φ i w2 (A.getD i []))
theorem nG.move{Φ:Nat->World->List Value->Prop}{B j:Nat}{w w':World}{v v':Value}{E vs':List (List Value)}(h:nG Φ B w v E j)(P:w.heap.size<=w'.heap.size)
  (J:∀p:Addr,B<p.block->p.block<w.heap.size->v.ownBlock≠some p.block->w'.cell? p=w.cell? p)(Q:∀r,v'.ownBlock=some r->v.ownBlock=some r\/w.heap.size<=r)(K:∀i,i<j->vs'.getD i []=E.getD i []):nG Φ B w' v' vs' j:=fun i hi=>by
 obtain⟨lo,L,F,C,D,G⟩:=h i hi;refine⟨lo,L,F,aZ6 C P,fun r O=>?_,fun w2 H=>?_⟩
 .rcases Q r O with A|A
  .exact D r A
  .exact .inr (aZ6 C A)
 .rw[K i hi];refine G w2 fun p M N=>(H p M N).trans (J p (by omega) (by omega) fun e=>?_);rcases D _ e with I|I<;>omega
theorem nG.snoc{Φ:Nat->World->List Value->Prop}{B j lo hi:Nat}{w:World}{v:Value}{A:List (List Value)}(h:nG Φ B w v A j)(C:B<lo)(D:hi<=w.heap.size)(E:∀r,v.ownBlock=some r->r<lo\/hi<=r)
  (F:Wnd lo hi w (fun w2=>Φ j w2 (A.getD j []))):nG Φ B w v A (j+1):=fun i hi=>by
 by_cases e:i=j
 .subst e;exact⟨_,_,C,D,E,F⟩
 .exact h i (by omega)
theorem Wnd.move{lo hi:Nat}{w w':World}{Φ:World->Prop}(h:Wnd lo hi w Φ)(B:∀p:Addr,lo<=p.block->p.block<hi->w'.cell? p=w.cell? p):Wnd lo hi w' Φ:=fun w2 A=>h w2 fun p a b=>(A p a b).trans (B p a b)
structure KR(g:Nat)(lv:Value)(toks:List (List Value))(n:Nat)(dep:Int)(i i' k k':Nat)(Φ:World->List Value->Prop):Prop where
 run:∀w,PS w g lv toks i n k->Calls Tryz.prog 32 #[.pointer (some ⟨g,0,none⟩),.int .i64 dep] w (fun e w'=>∃a b c d f,e=.returned (.agg #[a,b,c,d,f])/\(∀u∈[a,b,c,d,f],u.oneCell'=true)/\w.grownBy w' (some g)/\PS w' g lv toks i' n k'/\Wnd w.heap.size w'.heap.size w' (fun w2=>Φ w2 [a,b,c,d,f]))
def DS(A:Nat)(w:World):Nat:=match w.cell? ⟨A,4,none⟩ with|some (.slice _ n _)=>n|_=>0
theorem SK(w:World)(g:Nat)(lv:Value)(toks:List (List Value))(i n k:Nat)(h:PS w g lv toks i n k)(hi:i<toks.length)(t tx:ByteArray)(A:(toks.getD i [])[0]?=some (.int .i64 3))(B:(toks.getD i [])[1]?=some (.string tx))(hb:(tx.toList==t.toList)=true):
  Calls Tryz.prog 73 #[.pointer (some ⟨g,0,none⟩),.string t] w (fun e w'=>e=.returned (.tuple #[])/\w.grownBy w' (some g)/\PS w' g lv toks (i+1) n k):=by
 have E:=zh (AF w g lv toks i n k h t hi tx A B hb);clear A B hb h;go_enter Tryz.func73,Tryz.ntmps73;go_wp2_with fail;refine E.mono ?_;rintro e w1 ⟨rfl,hg,C⟩;have D:=zh hg;have F:=zh C;clear hg C;go_wp2_with fail;refine bodyPost_end (results_none rfl _ _ _) rfl ?_;exact⟨rfl,D.out,F.out⟩
theorem xT{w w1 w2:World}{r row:Option Nat}(h:w.grownBy w1 r)(A:w1.grownBy w2 row)(C:∀b,row=some b->w.heap.size<=b):w.grownBy w2 r:=
 ⟨A.os.trans h.os,A.tape.trans h.tape,A.output.trans h.output,aZ6 h.size A.size,fun b hb B=>by rw[A.block b (aY1 hb h.size) (fun e=>by have:=C b e.symm;omega)];exact h.block b hb B⟩
def XBk(nm:ByteArray)(v:Value):List Value:=[.int .i64 3,.string nm,.int .i64 0,.slice none 0 0,v]
theorem B8{w wr C D K M:World}{g B j n k i:Nat}{lv:Value}{toks:List (List Value)}{nm:ByteArray}{A F:Option Addr}{c G:Nat}{H:List (List Value)}{y:List Value}{Φ:Nat->World->List Value->Prop}
  (θ:g<B)(ρ:w.heap.size<B)(η:g<w.heap.size)(π:B<wr.heap.size)(hB:Blk wr w.heap.size 43 oU)(V:w.grownBy wr (some g))(Z:H.length=j)(x:RO (B+1) 43 5 wr (.slice A j c) H)(f:nG Φ B wr (.slice A j c) H j)
  (R:wr.grownBy C (some g))(S:C.drew.grownBy D (some g))(l:PS D g lv toks i n k)(m:Wnd C.drew.heap.size D.heap.size D (fun w2=>Φ j w2 y))
  (P:Below D.heap.size D K)(O:K.grownBy M (Value.slice A j c).ownBlock)(X:(Value.slice F (j+1) G).ownBlock=(Value.slice A j c).ownBlock\/(Value.slice F (j+1) G).ownBlock=some K.heap.size)
  (Y:RO (B+1) 43 5 M (.slice F (j+1) G) (H++[y]))(δ:Blk M B 43 (XBk nm (.slice A j c))):
  ∃E,M.setCell ⟨B,4,none⟩ (.slice F (j+1) G)=E/\PS E g lv toks i n k/\Blk E B 43 (XBk nm (.slice F (j+1) G))/\Blk E w.heap.size 43 oU/\w.grownBy E (some g)/\(H++[y]).length=j+1/\
   RO (B+1) 43 5 E (.slice F (j+1) G) (H++[y])/\nG Φ B E (.slice F (j+1) G) (H++[y]) (j+1):=by
 refine⟨_,rfl,?_⟩;have Q:∀b,(Value.slice A j c).ownBlock=some b->B+1<=b/\b<wr.heap.size:=fun b hb=>x.lt hb;have N:=bF M B 4 (.slice F (j+1) G);have κ:=R.size;have μ:C.heap.size<=D.heap.size:=S.size;have ι:=P.size;have z:=O.size;have ξ:=V.size;generalize hwz:M.setCell ⟨B,4,none⟩ (.slice F (j+1) G)=E at*;have ν:=N.size;have U:D.grownBy K none:=aN P none;have o:w.grownBy C (some g):=aX V R;have q:w.grownBy C.drew (some g):=aX o (aN (aH C) _);have s:w.grownBy D (some g):=aX q S;have t:w.grownBy K (some g):=xT s U (fun b e=>by cases e);have u:w.grownBy M (some g):=xT t O (fun b e=>by have:=Q b e;omega);have v:w.grownBy E (some g):=xT u N (fun b e=>by have:=aZ0 e;omega);have d:Blk E w.heap.size 43 oU:=((((hB.grown R (fun e=>by have:=aZ0 e;omega)).belowS (aH C)).grown S (fun e=>by have:=aZ0 e;omega)).belowS P|>.grown O (fun e=>by have:=Q _ e.symm;omega)).grown N (fun e=>by have:=aZ0 e;omega);have W:∀p:Addr,p.block<K.heap.size->p.block≠B->(Value.slice A j c).ownBlock≠some p.block->E.cell? p=K.cell? p:=fun p I J T=>(World.cell?_of_block (N.block _ (aY1 I z) (fun e=>J (aZ0 e)))).trans (World.cell?_of_block (O.block _ I (fun e=>T e.symm)));have h:∀p:Addr,p.block<wr.heap.size->p.block≠g->K.cell? p=wr.cell? p:=fun p I J=>by rw[P.cell (p:=p) (by omega),World.cell?_of_block (w:=C.drew) (w':=D) (S.block p.block (by show p.block<C.heap.size;omega) (fun e=>J (aZ0 e)))];exact World.cell?_of_block (w:=wr) (w':=C) (R.block p.block I (fun e=>J (aZ0 e)))
 refine⟨?_,?_,d,v,by simp[Z],?_,?_⟩
 .exact((l.grown U (fun b e=>by cases e)).grown O (fun b e=>by have:=Q b e;omega)).grown N (fun b e=>by have:=aZ0 e;omega)
 .rw[<-hwz];exact δ.set_ 4 _
 .exact Y.grown N (fun b e a=>by have I:=(Y.lt e).1;have:=aZ0 a;omega)
 .refine nG.snoc (lo:=C.heap.size) (hi:=D.heap.size) (f.move (by omega) (fun p I J T=>?_) (fun r L=>?_) (fun i hi=>?_)) (by omega) (by omega) (fun r L=>?_) ?_
  .rw[W p (by omega) (by omega) T,h p J (by omega)]
  .rcases X with e|e
   .exact .inl (e▸L)
   .rw[e] at L;have:=aZ0 L;exact .inr (by omega)
  .simp[List.getD,aY2 (by omega:i<H.length)]
  .rcases X with e|e
   .have:=Q r (e▸L);exact .inl (by omega)
   .rw[e] at L;have:=aZ0 L;exact .inr (by omega)
  .have ε:(H++[y]).getD j []=y:=by rw[<-Z];simp[List.getD]
   rw[ε];refine Wnd.move m fun p I J=>?_;have ζ:C.heap.size<=p.block:=I;rw[W p (by omega) (by omega) (fun e=>by have:=Q _ e;omega)];exact P.cell (p:=p) J
theorem B7(w:World)(g:Nat)(lv:Value)(toks:List (List Value))(i n k dep m ψ Fb:Nat)(nm:ByteArray)(h:PS w g lv toks i n k)(hi:i+1<toks.length)(Ap:toks.getD i []=eE 1 nm 0 ψ)(Ck:toks.getD (i+1) []=eE 3 ⟨#[40]⟩ 0 Fb)(Gi:dep+1<=32)(Gl:k+1<=1000)(hm:m<=100)
  (D O:Nat->Nat)(Φ:Nat->World->List Value->Prop)(Dp:D 0=i+2)(Dw:O 0=k+1)
  (Dq:0<m->D 0<toks.length/\∃Ba,(toks.getD (D 0) [])[0]?=some (.int .i64 Ba)/\(Ba==3)=false)
  (Cc:∀j,0<j->j<m->D j<toks.length/\∃a,toks.getD (D j) []=eE 3 ⟨#[44]⟩ 0 a)
  (Ds:∀j,j<m->KR g lv toks n ((dep:Int)+1) (if j=0 then D 0 else D j+1) (D (j+1)) (O j) (O (j+1)) (Φ j))
  (Du:D m<toks.length/\∃a,toks.getD (D m) []=eE 3 ⟨#[41]⟩ 0 a):
  Calls Tryz.prog 32 #[.pointer (some ⟨g,0,none⟩),.int .i64 (dep:Int)] w (fun e w'=>∃A c,e=.returned (.agg #[.int .i64 3,.string nm,.int .i64 0,.slice none 0 0,.slice A m c])/\w.grownBy w' (some g)/\PS w' g lv toks (D m+1) n (O m)/\
   Wnd w.heap.size w'.heap.size w' (fun w2=>∃J:List (List Value),J.length=m/\RG 5 w2 (.slice A m c) J/\∀j,j<m->Φ j w2 (J.getD j []))):=by
 have Dv:=h.blk.lt;have Fk:=h.small;obtain⟨A,c,rfl,_⟩:=id h.tok;obtain⟨H,rfl,_⟩:=h.tok.elt (k:=i) (by omega);have Cs:=zh (fun(B:World) (M:PS B g (.slice (some H) toks.length c) toks i n k)=>SH B g _ toks i n k M (by omega) _ (by rw[Ap];rfl));have Da:=zh (fun(B:World) (M:PS B g (.slice (some H) toks.length c) toks i n k) (t:ByteArray)=>AE B g _ toks i n k M t (by omega) 1 (by rw[Ap];rfl) (by decide));have Db:=zh (fun(B:World) (M:PS B g (.slice (some H) toks.length c) toks i n k)=>qU B g _ toks i n k M (by omega) 1 (by rw[Ap];rfl));have Bs:=zh (fun(B:World) (F:RG 4 B (.slice (some H) toks.length c) toks)=>F.elt (k:=i) (by omega));rw[Ap] at Bs;have De:=zh (fun(B:World) (M:PS B g (.slice (some H) toks.length c) toks (i+1) n (k+1))=>AF B g _ toks (i+1) n (k+1) M ⟨#[40]⟩ hi ⟨#[40]⟩ (by rw[Ck];rfl) (by rw[Ck];rfl) (by rw[ByteArray.toList_eq];decide));have Ey:Hid (∀j,j<m->∀B:World,PS B g (.slice (some H) toks.length c) toks (D j) n (O j)->Calls Tryz.prog 70 #[.pointer (some ⟨g,0,none⟩),.string ⟨#[41]⟩] B (fun e w'=>e=.returned (.bool false)/\B.grownBy w' (some g)/\PS w' g (.slice (some H) toks.length c) toks (D j) n (O j))):=aD fun j Aa B M=>by
  by_cases θ:j=0
  .subst θ;obtain⟨d,Ba,F,U⟩:=Dq Aa;exact AE B g _ toks _ n _ M _ d Ba F U
  .obtain⟨d,a,F⟩:=Cc j (by omega) Aa;exact SJ B g _ toks _ n _ M _ d ⟨#[44]⟩ (by rw[F];rfl) (by rw[F];rfl) (by rw[ByteArray.toList_eq,ByteArray.toList_eq];decide)
 have Ex:Hid (∀j,0<j->j<m->∀B:World,PS B g (.slice (some H) toks.length c) toks (D j) n (O j)->Calls Tryz.prog 73 #[.pointer (some ⟨g,0,none⟩),.string ⟨#[44]⟩] B (fun e w'=>e=.returned (.tuple #[])/\B.grownBy w' (some g)/\PS w' g (.slice (some H) toks.length c) toks (D j+1) n (O j))):=aD fun j Fh Aa B M=>by obtain⟨d,a,F⟩:=Cc j Fh Aa;exact SK B g _ toks _ n _ M d _ ⟨#[44]⟩ (by rw[F];rfl) (by rw[F];rfl) (by rw[ByteArray.toList_eq];decide)
 have Em:Hid (∀B:World,PS B g (.slice (some H) toks.length c) toks (D m) n (O m)->Calls Tryz.prog 70 #[.pointer (some ⟨g,0,none⟩),.string ⟨#[41]⟩] B (fun e w'=>e=.returned (.bool true)/\B.grownBy w' (some g)/\PS w' g (.slice (some H) toks.length c) toks (D m+1) n (O m))):=aD fun B M=>by obtain⟨d,a,F⟩:=Du;exact AF B g _ toks _ n _ M _ d ⟨#[41]⟩ (by rw[F];rfl) (by rw[F];rfl) (by rw[ByteArray.toList_eq];decide)
 have Cr:=zh Ds;have Eu:=zh h;have Cz:Hid (i+1<toks.length):=aD hi;have Ef:=zh Dp;have Ev:=zh Dw;clear h Ap Ck hi Dp Dw Dq Cc Ds Du;generalize hL:toks.length=L at*;have Fx:=zh hL;clear hL;go_enter Tryz.func32,Tryz.ntmps32;go_upto_region 1 with fail;have Ct:=zh (Blk.new w 43 oU);have Au:=zh (Eu.grown (row:=none) (aN (aF w (.cells oU.toArray 43)) none) (fun b e=>by cases e));have Cx:=zh (aN (aF w (.cells oU.toArray 43)) (some g));unfold oU at Ct Au Cx;generalize w.alloc (.cells #[.int .i64 0,.string {data:=#[]},.int .i64 0,.slice none 0 0,.slice none 0 0] 43)=w0 at*;have c1:w0.cell? ⟨g,1,none⟩=some (.int .i64 (i:Int)):=Au.blk.cell 1;have χ:=zh (Au.grown (row:=none) (aN (aH w0) none) (fun b e=>by cases e));refine aG.start (S:=fun w'=>w'.cell? ⟨g,1,none⟩=some (.int .i64 (i:Int))) (by kernel_rfl) (c1) (fun P=>?_);change aG _ _ _ _ 8 _ _ _;refine tq 0 ?_;refine tq 1 ?_;refine tq 2 ?_;refine tq 3 ?_;refine tq 4 ?_;try simp only[tz]
 refine aG.only (i:=5) (by kernel_rfl) rfl (fun K hK=>?_);go_simp;refine(Cs _ χ).mono ?_;rintro e I ⟨rfl,Bc,rfl⟩;refine hK.out _ _ (c1) ?_;clear hK K P;intro P;try simp only[tz]
 refine tq 6 ?_;try simp only[tz]
 refine aG.only (i:=7) (by kernel_rfl) rfl (fun K hK=>?_);go_simp;refine hK.out _ _ P (fun E=>?_);clear hK K;clear E;refine aG.done (by kernel_rfl) ?_;try simp only[tz]
 clear P;have Ez:=zh (Au.drewN (1+Bc));have Ek:=zh (Ct.belowS (bI w0 (1+Bc)));have Er:=zh (aX Cx (aN (bI w0 (1+Bc)) (some g)));generalize w0.drewN (1+Bc)=w1 at*;clear c1 χ;go_wp2_with fail;refine(Da.out w1 Ez _).mono ?_;rintro e w2 ⟨rfl,Cd,Dx⟩;have Ei:=zh (Ek.grown Cd (fun e=>by have:=aZ0 e;omega));have En:=zh (aX Er Cd);have Dg:=zh Dx;clear Cd Dx;go_wp2_with fail;refine(Db.out w2 Dg).mono ?_;rintro e ι ⟨rfl,Bb,rfl⟩;have μ:=zh (Dg.drewN Bb);have Ej:=zh (Ei.belowS (bI _ Bb));have Eo:=zh (aX En (aN (bI w2 Bb) (some g)));generalize w2.drewN Bb=ι at*;have c0:ι.cell? ⟨g,0,none⟩=some (.slice (some H) L c):=μ.blk.cell 0;have c1:ι.cell? ⟨g,1,none⟩=some (.int .i64 (i:Int)):=μ.blk.cell 1;have c3:ι.cell? ⟨g,3,none⟩=some (.int .i64 (k:Int)):=μ.blk.cell 3;have Dn:ι.frozen? ⟨g,1,none⟩=false:=μ.blk.frozen 1;have Do:ι.frozen? ⟨g,3,none⟩=false:=μ.blk.frozen 3;have ω:decide ((32:Int)<(dep:Int))=false:=decide_eq_false (by omega);have G:decide (32<dep)=false:=decide_eq_false (by omega);have Gb:((k:Int)==1024)=false:=by rw[beq_eq_false_iff_ne];omega
 go_upto_region 12 with fail;obtain⟨R,η⟩:∃R,R=(ι.setCell ⟨g,3,none⟩ (.int .i64 ((k:Int)+1))).setCell ⟨g,1,none⟩ (.int .i64 ((i:Int)+1)):=⟨_,rfl⟩
 have Aw:ι.grownBy R (some g):=by rw[η];exact aP (p:=⟨g,1,none⟩) (aP (p:=⟨g,3,none⟩) (World.grownBy.refl _ _) (.inl rfl) _) (.inl rfl) _
 have Dt:Blk R g 75 [.slice (some H) L c,.int .i64 ((i+1:Nat):Int),.int .i64 (n:Int),.int .i64 ((k+1:Nat):Int)]:=by rw[η];exact(μ.blk.set_ 3 _).set_ 1 _
 have Bk:=zh (μ.kept Aw Dt ⟨by have:=Cz.out;have:=Fk.1;omega,by omega,by omega⟩);have Cu:=zh (Ej.grown Aw (fun e=>by have:=aZ0 e;omega));have Ep:=zh (aX Eo Aw);rw[<-η];clear η Aw Dt c0 c1 c3 Dn Do;have c0:R.cell? ⟨g,0,none⟩=some (.slice (some H) L c):=Bk.blk.cell 0;obtain⟨Ga,Dr,Ea,Az⟩:=Bs.out R Bk.tok;obtain rfl:=aZ0 Dr;have Fs:=Ea _ rfl;have Aq:=Az 0 _ rfl;have Ft:=Az 1 _ rfl;have Fu:=Az 2 _ rfl;have Fc:(i:Int)<(L:Int):=by have:=Cz.out;omega
 have Gc:decide ((i:Int)<(L:Int))=true:=decide_eq_true Fc;clear Dr Ea Az;go_upto_region 13 with fail;have Br:=zh (Blk.new R 129 [.int .i64 1,.string nm,.int .i64 0,.int .i64 (ψ:Int)]);have Dh:=zh (Bk.grown (row:=none) (aN (aF R (.cells [.int .i64 1,.string nm,.int .i64 0,.int .i64 (ψ:Int)].toArray 129)) none) (fun b e=>by cases e));have Cv:=zh (Cu.alloc (.cells [.int .i64 1,.string nm,.int .i64 0,.int .i64 (ψ:Int)].toArray 129));have Cy:=zh (aX Ep (aN (aF R (.cells [.int .i64 1,.string nm,.int .i64 0,.int .i64 (ψ:Int)].toArray 129)) (some g)));have Fj:=Cu.lt;have Gm:Hid (w.heap.size<R.heap.size):=aD Fj;generalize R.alloc (.cells #[.int .i64 1,.string nm,.int .i64 0,.int .i64 (ψ:Int)] 129)=Ee at*;clear c0 Fs Aq Ft Fu;have Aq:Ee.cell? ⟨R.heap.size,1,none⟩=some (.string nm):=Br.cell 1;go_wp2_with fail;refine(De.out Ee Dh).mono ?_;rintro e X ⟨rfl,Ax,Dy⟩;have Di:=zh Dy;have N:=zh (Cv.grown Ax (fun e=>by have:=aZ0 e;omega));have Dk:=zh (Br.grown Ax (fun e=>by have:=aZ0 e;omega));have Bh:=zh (aX Cy Ax);have Bv:Hid (w.heap.size<X.heap.size):=aD (by have:=N.lt;omega);clear Aq Ax Dy;have Aq:X.cell? ⟨R.heap.size,1,none⟩=some (.string nm):=Dk.cell 1;go_upto_region 18 with fail;have Cf:g<X.heap.size:=by have:=Bh.size;omega
 have Dl:=zh (Blk.new X 43 [.int .i64 3,.string nm,.int .i64 0,.slice none 0 0,.slice none 0 0]);have Dj:=zh (Di.grown (row:=none) (aN (aF X (.cells [.int .i64 3,.string nm,.int .i64 0,.slice none 0 0,.slice none 0 0].toArray 43)) none) (fun b e=>by cases e));have El:=zh (N.alloc (.cells [.int .i64 3,.string nm,.int .i64 0,.slice none 0 0,.slice none 0 0].toArray 43));have Et:=zh (aX Bh (aN (aF X (.cells [.int .i64 3,.string nm,.int .i64 0,.slice none 0 0,.slice none 0 0].toArray 43)) (some g)));have Fa:Hid ((X.alloc (.cells [.int .i64 3,.string nm,.int .i64 0,.slice none 0 0,.slice none 0 0].toArray 43)).heap.size=X.heap.size+1):=aD (by show(X.heap.push _).size=_;rw[Array.size_push]);generalize X.alloc (.cells #[.int .i64 3,.string nm,.int .i64 0,.slice none 0 0,.slice none 0 0] 43)=Gp at*;clear Aq Dk Br Di N Bh De Bs Db Da Cs Dh Cv Cy;obtain⟨C,Co⟩:∃C,C=X.heap.size:=⟨_,rfl⟩
 rw[<-Co] at Dl Fa Bv Cf|-;have Fy:=zh Co;clear Co;have Ed:=Bv.out;rw[<-Ev.out,show i+1+1=D 0 from Ef.out.symm] at Dj;go_loopw [] (fun wr=>∃(j:Nat) (A:Option Addr) (Bw:Nat) (J:List (List Value)),j<=m/\Hid (PS wr g (.slice (some H) L c) toks (D j) n (O j))/\Hid (Blk wr C 43 [.int .i64 3,.string nm,.int .i64 0,.slice none 0 0,.slice A j Bw])/\Hid (Blk wr w.heap.size 43 [.int .i64 0,.string {data:=#[]},.int .i64 0,.slice none 0 0,.slice none 0 0])/\Hid (w.grownBy wr (some g))/\Hid (J.length=j)/\Hid (RO (C+1) 43 5 wr (.slice A j Bw) J)/\Hid (nG Φ C wr (.slice A j Bw) J j)) (fun wr=>m-DS C wr)
 case atStart=>exact⟨0,none,0,[],aZ5 _,Dj,Dl,El,Et,rfl,RO.nil _ _ _ _,fun i hi=>absurd hi (aY5 _)⟩
 case round=>
  obtain⟨j,A,c',J,Gk,Df,Ae,Be,Bg,ν,T,Bd⟩:=hrel;have Ec:=Ae.lt;by_cases Ay:j<m
  .go_wp2_with fail;refine(Ey j Ay wr Df).mono ?_;rintro e Q ⟨rfl,V,Am⟩;have Av:=zh Am;have Ac:=zh (Ae.grown V (fun e=>by have:=aZ0 e;omega));have φ:=zh V;clear V Am;have x4:Q.cell? ⟨C,4,none⟩=some (.slice A j c'):=Ac.cell 4;by_cases θ:j=0
   .have Fe:decide ((0:Int)<(j:Int))=false:=decide_eq_false (by omega);have Ff:decide (0<j)=false:=decide_eq_false (by omega);have Bm:Hid (PS Q g (.slice (some H) L c) toks (if j=0 then D 0 else D j+1) n (O j)):=aD (by rw[if_pos θ,<-θ];exact Av.out);have Fw:=zh θ;clear θ;go_wp2_with fail;have Fl:IntKind.i64.wrap ((dep:Int)+1)=(dep:Int)+1:=IntWalk.i64_in _ (by omega);have Bp:=zh (fun b (hb:(Value.slice A j c').ownBlock=some b)=>T.lt hb);have Bu:Hid (C+1<=Q.heap.size):=aD (by have:=φ.size;omega);have Bo:=zh (fun(I τ:World) (F:Q.drew.grownBy I (some g)) (U:Below I.heap.size I τ)=>(((T.grown φ (fun b e G=>by have Z:=(T.lt e).1;have:=aZ0 G;omega)).below (aH Q) zr).grown F (fun b e G=>by have Z:=(T.lt e).1;have:=aZ0 G;omega)).below U zr);have χ:Hid (PS Q.drew g (.slice (some H) L c) toks (if j=0 then D 0 else D j+1) n (O j)):=aD (Bm.grown (row:=none) (aN (aH Q) none) (fun b e=>by cases e));have Bt:=zh (Ac.belowS (aH Q));refine aM.start (S:=fun w'=>w'.cell? ⟨C,4,none⟩=some (.slice A j c')) (by kernel_rfl) (x4) (fun P=>?_);change aM _ _ _ _ 10 _ _ _;refine dq 0 ?_;refine dq 1 ?_;refine dq 2 ?_;refine dq 3 ?_;refine dq 4 ?_;try simp only[tz]
    refine aM.only (i:=5) (by kernel_rfl) rfl (fun K hK=>?_);go_simp;refine((Cr j Ay).run _ χ).mono ?_;rintro e I ⟨l,s,δ,ε,ζ,rfl,Al,ρ,An,Ao⟩;have κ:=zh ρ;have Bl:=zh An;have Bn:=zh Ao;have Bj:=zh Al;have Ad:=zh (Bt.grown ρ (fun e=>by have:=aZ0 e;omega));clear Al ρ An Ao;have At:I.cell? ⟨C,4,none⟩=some (.slice A j c'):=Ad.cell 4;refine hK.out _ _ (fun _=>At) (fun E=>?_);clear hK K;replace P:=E (by decide);clear E;try simp only[tz]
    refine aM.only (i:=6) (o:=?op1) (by kernel_rfl) ?ho1 (fun K hK=>?_)
    case ho1=>(conv=>lhs;simp only[tdg,tdh,tdi])
    go_simp;obtain⟨τ,Ag,ω,G,Ah,Aj⟩:=bB I 43 [l,s,δ,ε,ζ];rw[ω,G];have Bf:=zh Ah;have N:=zh Aj;have Es:Hid (Ag=I.heap.size):=aD G.symm;clear ω G Ah Aj;have Cp:=aE N.out At;refine hK.out _ _ (fun _=>Cp) (fun E=>?_);clear hK K;replace P:=E (by decide);clear E;try simp only[tz]
    refine aM.only (i:=7) (o:=?op2) (by kernel_rfl) ?ho2 (fun K hK=>?_)
    case ho2=>(conv=>lhs;simp only[tdg,tdh,tdi])
    refine nE rfl 43 41 5 80 _ Tryz.underlying41 Tryz.infoExpr rfl (by decide) (by decide) _ _ rfl (C+1) _ J rfl (by have:=Bo.out I τ κ N.out;exact this) Ag 1 [l,s,δ,ε,ζ] rfl rfl (fun q u Cl=>(Bf.cell q).trans Cl) Bj.out (by have:=ν.out;omega) (by have F:=N.size;have U:=κ.size;have Z:=Bu.out;have η:Q.drew.heap.size=Q.heap.size:=rfl;omega) ?_;intro Fv Ar f π σ;obtain⟨Ab,Af,rfl⟩:=f.form';have Ak:(J++[[l,s,δ,ε,ζ]]).length=j+1:=(by simp[ν.out]);rw[Ak] at f σ|-;have ξ:=zh ((Ad.belowS N).grown π (fun e=>by have:=(Bp _ e.symm).1;omega));have Cq:Ar.cell? ⟨C,4,none⟩=some (.slice A j c'):=ξ.cell 4;have Fg:Ar.frozen? ⟨C,4,none⟩=false:=ξ.frozen 4;have Bq:=zh (B8 (nm:=nm) Cf Ed Dv Ec Be Bg ν T Bd φ κ Bl Bn N π σ f ξ);clear f π σ Ak;refine hK.out _ _ (fun _=>Cq) (fun E=>?_);clear hK K;replace P:=E (by decide);clear E;try simp only[tz]
    refine dq 8 ?_;try simp only[tz]
    refine aM.only (i:=9) (by kernel_rfl) rfl (fun K hK=>?_);go_simp;refine hK.out _ _ (fun h=>absurd rfl h) (fun E=>?_);clear hK K;clear E;refine aM.done (by kernel_rfl) ?_;try simp only[tz]
    clear P;obtain⟨As,Cm,Cb,Ai,By,Bz,Ch,Ca,Bx⟩:=Bq.out;rw[Cm];have hn1:DS C As=j+1:=by unfold DS;rw[show As.cell? ⟨C,4,none⟩=some (.slice Ab (j+1) Af) from Ai.cell 4]
    have Ci:DS C wr=j:=by unfold DS;rw[show wr.cell? ⟨C,4,none⟩=some (.slice A j c') from Ae.out.cell 4]
    go_wp2_with fail;exact⟨⟨j+1,Ab,Af,J++[[l,s,δ,ε,ζ]],by omega,Cb,Ai,By,Bz,Ch,Ca,Bx⟩,by rw[hn1,Ci];omega⟩
   .have Fe:decide ((0:Int)<(j:Int))=true:=decide_eq_true (by omega);have Ff:decide (0<j)=true:=decide_eq_true (by omega);have Ew:=zh (Ex j (by omega) Ay Q Av);go_wp2_with fail;refine Ew.mono ?_;rintro e W ⟨rfl,Ce,Dz⟩;have Bm:Hid (PS W g (.slice (some H) L c) toks (if j=0 then D 0 else D j+1) n (O j)):=aD (by rw[if_neg θ];exact Dz);have Dm:=zh (Ac.grown Ce (fun e=>by have:=aZ0 e;omega));have Bi:=zh (aX φ Ce);clear Ce Dz θ x4;have x4:W.cell? ⟨C,4,none⟩=some (.slice A j c'):=Dm.cell 4;go_wp2_with fail;have Fl:IntKind.i64.wrap ((dep:Int)+1)=(dep:Int)+1:=IntWalk.i64_in _ (by omega);have Bp:=zh (fun b (hb:(Value.slice A j c').ownBlock=some b)=>T.lt hb);have Bu:Hid (C+1<=W.heap.size):=aD (by have:=Bi.size;omega);have Bo:=zh (fun(I τ:World) (F:W.drew.grownBy I (some g)) (U:Below I.heap.size I τ)=>(((T.grown Bi (fun b e G=>by have Z:=(T.lt e).1;have:=aZ0 G;omega)).below (aH W) zr).grown F (fun b e G=>by have Z:=(T.lt e).1;have:=aZ0 G;omega)).below U zr);have χ:Hid (PS W.drew g (.slice (some H) L c) toks (if j=0 then D 0 else D j+1) n (O j)):=aD (Bm.grown (row:=none) (aN (aH W) none) (fun b e=>by cases e));have Bt:=zh (Dm.belowS (aH W));refine aM.start (S:=fun w'=>w'.cell? ⟨C,4,none⟩=some (.slice A j c')) (by kernel_rfl) (x4) (fun P=>?_);change aM _ _ _ _ 10 _ _ _;refine dq 0 ?_;refine dq 1 ?_;refine dq 2 ?_;refine dq 3 ?_;refine dq 4 ?_;try simp only[tz]
    refine aM.only (i:=5) (by kernel_rfl) rfl (fun K hK=>?_);go_simp;refine((Cr j Ay).run _ χ).mono ?_;rintro e I ⟨l,s,δ,ε,ζ,rfl,Al,ρ,An,Ao⟩;have κ:=zh ρ;have Bl:=zh An;have Bn:=zh Ao;have Bj:=zh Al;have Ad:=zh (Bt.grown ρ (fun e=>by have:=aZ0 e;omega));clear Al ρ An Ao;have At:I.cell? ⟨C,4,none⟩=some (.slice A j c'):=Ad.cell 4;refine hK.out _ _ (fun _=>At) (fun E=>?_);clear hK K;replace P:=E (by decide);clear E;try simp only[tz]
    refine aM.only (i:=6) (o:=?op3) (by kernel_rfl) ?ho3 (fun K hK=>?_)
    case ho3=>(conv=>lhs;simp only[tdg,tdh,tdi])
    go_simp;obtain⟨τ,Ag,ω,G,Ah,Aj⟩:=bB I 43 [l,s,δ,ε,ζ];rw[ω,G];have Bf:=zh Ah;have N:=zh Aj;have Es:Hid (Ag=I.heap.size):=aD G.symm;clear ω G Ah Aj;have Cp:=aE N.out At;refine hK.out _ _ (fun _=>Cp) (fun E=>?_);clear hK K;replace P:=E (by decide);clear E;try simp only[tz]
    refine aM.only (i:=7) (o:=?op4) (by kernel_rfl) ?ho4 (fun K hK=>?_)
    case ho4=>(conv=>lhs;simp only[tdg,tdh,tdi])
    refine nE rfl 43 41 5 80 _ Tryz.underlying41 Tryz.infoExpr rfl (by decide) (by decide) _ _ rfl (C+1) _ J rfl (by have:=Bo.out I τ κ N.out;exact this) Ag 1 [l,s,δ,ε,ζ] rfl rfl (fun q u Cl=>(Bf.cell q).trans Cl) Bj.out (by have:=ν.out;omega) (by have F:=N.size;have U:=κ.size;have Z:=Bu.out;have η:W.drew.heap.size=W.heap.size:=rfl;omega) ?_;intro Fv Ar f π σ;obtain⟨Ab,Af,rfl⟩:=f.form';have Ak:(J++[[l,s,δ,ε,ζ]]).length=j+1:=(by simp[ν.out]);rw[Ak] at f σ|-;have ξ:=zh ((Ad.belowS N).grown π (fun e=>by have:=(Bp _ e.symm).1;omega));have Cq:Ar.cell? ⟨C,4,none⟩=some (.slice A j c'):=ξ.cell 4;have Fg:Ar.frozen? ⟨C,4,none⟩=false:=ξ.frozen 4;have Bq:=zh (B8 (nm:=nm) Cf Ed Dv Ec Be Bg ν T Bd Bi κ Bl Bn N π σ f ξ);clear f π σ Ak;refine hK.out _ _ (fun _=>Cq) (fun E=>?_);clear hK K;replace P:=E (by decide);clear E;try simp only[tz]
    refine dq 8 ?_;try simp only[tz]
    refine aM.only (i:=9) (by kernel_rfl) rfl (fun K hK=>?_);go_simp;refine hK.out _ _ (fun h=>absurd rfl h) (fun E=>?_);clear hK K;clear E;refine aM.done (by kernel_rfl) ?_;try simp only[tz]
    clear P;obtain⟨As,Cm,Cb,Ai,By,Bz,Ch,Ca,Bx⟩:=Bq.out;rw[Cm];have hn1:DS C As=j+1:=by unfold DS;rw[show As.cell? ⟨C,4,none⟩=some (.slice Ab (j+1) Af) from Ai.cell 4]
    have Ci:DS C wr=j:=by unfold DS;rw[show wr.cell? ⟨C,4,none⟩=some (.slice A j c') from Ae.out.cell 4]
    go_wp2_with fail;exact⟨⟨j+1,Ab,Af,J++[[l,s,δ,ε,ζ]],by omega,Cb,Ai,By,Bz,Ch,Ca,Bx⟩,by rw[hn1,Ci];omega⟩
  .obtain rfl:m=j:=by omega
   go_wp2_with fail;refine(Em wr Df).mono ?_;rintro e Q ⟨rfl,V,Am⟩;have Av:=zh Am;have Ac:=zh (Ae.grown V (fun e=>by have:=aZ0 e;omega));have Cw:=zh (Be.grown V (fun e=>by have:=aZ0 e;omega));have φ:=zh (aX Bg V);have Dc:=zh (T.grown V (fun b e G=>by have Z:=(T.lt e).1;have:=aZ0 G;omega));have Eg:=zh (Bd.move (w':=Q) (v':=.slice A m c') (vs':=J) V.size (fun p F U Z=>World.cell?_of_block (V.block _ U (fun e=>by have:=aZ0 e;omega))) (fun r Cj=>.inl Cj) (fun i hi=>rfl));have Fz:Hid (C<Q.heap.size):=aD (by have:=V.size;omega);clear V Am;obtain⟨x0,x1,x2,x3,x4,Gd,Dn,Ge,Do,Gf⟩:=Cw.five;obtain⟨Gq,Gr,Gs,Gt,Gu,_,_,_,_,_⟩:=Ac.five;go_wp2_with fail;obtain⟨W,Fi,Y⟩:=uP (x:=.int .i64 3) (y:=.string nm) (z:=.int .i64 0) (u:=.slice none 0 0) (v:=.slice A m c') Cw.out;rw[Fi];have Fm:=Y.c0;have Fo:=Y.c1;have Fp:=Y.c2;have Fq:=Y.c3;have Fr:=Y.c4;refine bodyPost_ret (v:=.agg #[.int .i64 3,.string nm,.int .i64 0,.slice none 0 0,.slice A m c']) (by simp[results,Tryz.results32,go_sem,Fm,Fo,Fp,Fq,Fr]) rfl ?_;refine⟨A,c',rfl,xT φ Y.gr (fun b e=>by have:=aZ0 e;omega),Av.grown Y.gr (fun b e=>by have:=aZ0 e;omega),?_⟩;have Gn:=Bv.out;have Dd:=Dc.grown Y.gr (fun b e G=>by have Z:=(Dc.lt e).1;have:=aZ0 G;omega);have Eh:=Eg.move (w':=W) (v':=.slice A m c') (vs':=J) Y.gr.size (fun p F U Z=>World.cell?_of_block (Y.gr.block _ U (fun e=>by have:=aZ0 e;omega))) (fun r Cj=>.inl Cj) (fun i hi=>rfl);intro w2 Eb;refine⟨J,ν.out,?_,fun j Aa=>?_⟩
   .exact Dd.rg.moved fun p M d=>Eb p (by have:=(Dd.lt M).1;omega) d
   .obtain⟨lo,Gj,F,U,Z,η⟩:=Eh j Aa;exact η w2 fun p Gg Gh=>Eb p (by omega) (by omega)
end Go.Proofs.YtpfhoemohibniaaGreatDoor
