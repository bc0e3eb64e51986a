/- Parts. -/
import Derived.Test.YtnpfliklhbkonaaGreatDoorZA12
import Derived.Test.YtnpfliklhbkonaaGreatDoorZA22
set_option maxRecDepth 99999
set_option maxHeartbeats 0
set_option linter.unusedSimpArgs false
set_option linter.unusedVariables false
namespace Go.Proofs.YtnpfliklhbkonaaGreatDoor
open Go.Proofs.Tryz
section
open Go.RowKit
theorem KX.cell{B:Nat}{X:Nat->Prop}{w w':Wo}(h:KX B X w w'){b o:Nat}{u:Va}(A:w.cell? ⟨b,o,none⟩=some u)(D:X b):w'.cell? ⟨b,o,none⟩=some u:=by have C:b<w.heap.size:=World.block_lt_of_cell? _ _ A;rw[World.cell?_of_block (w:=w) (h.box b D C)];exact A
section
variable {w:Wo} {B g n c g4 g5 g7 gk ga gi gx a k i A:Nat} {X:Nat->Prop} {l:LL}
theorem QX(O:w.cell? g5=some (.slice g n c))(K:w.cell? g7=some (():aV))(x7:X g7)
 (E:OM B X w (.slice g n c) l)(hn:l=n)(L:a<n)(hk:k<n)(F:a≠k)(N:X gk)(M:X ga)
 (D:w.cell? gk=some (k:aV))(C:w.cell? ga=some (a:aV))(hB:B<=w):
 Calls prog 273 #[.func (.func 274) #[] #[.pointer gk,.pointer ga],.pointer g5,.pointer g7] w (EZ B X w (.slice g n c) (cY l a k)):=by
 have A:=zP w B g n c gk ga a k X l E hn L hk F N M D C hB;have H:=zh A;clear A E D C F hn;go_enter func273,ntmps273;go_wp2_with fail;apply H.mono;rintro e w1⟨rfl,G,hk⟩;have P:=hk.cell K x7;have J:=zh G;have I:=zh hk;clear G hk;go_wp2;refine bodyPost_end (results_none rfl _ _ _) rfl ?_;exact⟨rfl,J.out,I.out⟩
theorem QZ{C:Wo}{P M z:Int}{Mq:LI}(V:w.cell? g5=some (.slice g n c))(S:w.cell? g7=some (():aV))(x7:X g7)
 (G:GF C A P M Mq)(H:Below C C w)(T:C<=B)
 (J:OM B X w (.slice g n c) l)(hn:l=n)(U:a<n)(I:∀g,X g->g<w.heap.size)
 (K:(l a []).length<=100000)(N:∀k,I64 ((l a []).getD k 0))
 (D:w.cell? g4=some (.pointer A))(F:w.cell? gi=some (z:aV))(E:w.cell? ga=some (a:aV))(hB:B<=w):
 Calls prog 273 #[.func (.func 276) #[] #[.pointer g4,.pointer gi,.pointer ga],.pointer g5,.pointer g7] w
  (EZ B X w (.slice g n c) (l.set a (bN (aD P M Mq) z (l a [])))):=by
 have O:=zh (DE C w B A g n c g4 gi ga a P M z Mq X l G H T J hn U I K N D F E hB);clear J D F E hn G H I K N;go_enter func273,ntmps273;go_wp2_with fail;apply O.mono;rintro e w1⟨rfl,L,hk⟩;have W:=hk.cell S x7;have R:=zh L;have Q:=zh hk;clear L hk;go_wp2;refine bodyPost_end (results_none rfl _ _ _) rfl ?_;exact⟨rfl,R.out,Q.out⟩
theorem Q2{C:Wo}{L:Nat}{P M x:Int}{Mq:LI}(f:w.cell? g5=some (.slice g n c))(T:w.cell? g7=some (():aV))(x7:X g7)
 (H:GF C A P M Mq)(I:Below C C w)(U:C<=B)
 (K:OM B X w (.slice g n c) l)(hn:l=n)(hi:i<n)(Y:a<n)(N:i≠a)
 (J:∀j,j<n->(l j []).length=L/\∀k,I64 ((l j []).getD k 0))(V:0<L)(W:L<=100000)(x4:X g4)(b:X gi)(d:X gx)(Z:X ga)
 (D:w.cell? g4=some (.pointer A))(F:w.cell? gi=some (i:aV))(G:w.cell? gx=some (x:aV))(E:w.cell? ga=some (a:aV))(hB:B<=w):
 Calls prog 273 #[.func (.func 277) #[] #[.pointer g4,.pointer gi,.pointer gx,.pointer ga],.pointer g5,.pointer g7] w
  (EZ B X w (.slice g n c) (l.set i (cQ (aD P M Mq) (l i []) (iO P M x) (l a [])))):=by
 have Q:=zh (DB C w B A g n c L g4 gi gx ga i a P M x Mq X l H I U K hn hi Y N J V W x4 b d Z D F G E hB);clear K D F G E hn H I J N;go_enter func273,ntmps273;go_wp2_with fail;apply Q.mono;rintro e w1⟨rfl,O,hk⟩;have h:=hk.cell T x7;have S:=zh O;have R:=zh hk;clear O hk;go_wp2;refine bodyPost_end (results_none rfl _ _ _) rfl ?_;exact⟨rfl,S.out,R.out⟩
end
section
variable {w0 wr w1:Wo} {v u:Va} {l l':LL} {piv:LI} {X:Nat->Prop} {A b4 b5 b7:Nat}
end
def UT(w0:Wo)(v:Va)(l:LL)(piv:LI)(e:Ending)(w':Wo):Prop:=
 ∃u d,e=.returned (.tuple #[u,.int .i64 d])/\OM w0 (fun g=>g<w0.heap.size\/u.ownBlock=some g) w' v l/\OI w0 w' u piv/\Below w0 w0 w'
theorem SF (w0 w : Wo) (A : Nat) (P M : Int) (Mq : LI) (F : Int) (B : OA) (c : Nat) (hO : OM w0 (fun g => g < w0.heap.size) w (.slice B 0 c) []) (G : Below w0 w0 w) :
 Calls prog 161 #[.pointer A,.slice B 0 c,F,()] w (UT w0 (.slice B 0 c) [] []):=by
 have I:=zh hO;have C:=zh G;clear hO G;have H:=aC (aC (aH w (.cells #[.pointer A] 57)) (aH _ (.cells #[.slice B 0 c] 25))) (aH _ (.cells #[()] 25));have K:(((w.alloc (.cells #[.pointer A] 57)).alloc (.cells #[.slice B 0 c] 25)).alloc (.cells #[()] 25)).cell? ⟨w.heap.size+1,0,none⟩=some (.slice B 0 c):=by have E:=Blk.new (w.alloc (.cells #[.pointer A] 57)) 25 [.slice B 0 c];rw[World.size_alloc] at E;exact(E.alloc (.cells #[()] 25)).cell 0
 have D:=zh H;clear H;go_enter func161,ntmps161;go_wp2_with fail;generalize ((w.alloc (.cells #[.pointer A] 57)).alloc (.cells #[.slice B 0 c] 25)).alloc (.cells #[()] 25)=w1 at*;go_wp2;go_loop [10,12,13] (fun d u c=>d=.int .i64 1/\u=.slice none 0 0/\c=.int .i64 0) (fun _ _ _=>0)
 .exact⟨rfl,rfl,rfl⟩
 .
  obtain⟨rfl,rfl,rfl⟩:=hrel;by_cases J:0<F
  all_goals
   go_wp2;go_ret2;exact⟨_,_,rfl,(I.below D).names (fun g _ h=>h.resolve_right (by simp[Value.ownBlock])),OI.nil _ _,C.trans (D.mono C.size)⟩
theorem ay{O:aQ}{q:Int}(hO:O.Fld q){x:Int}(B:0<x)(A:x<q):O.inv x=1↔x=1:=by
 have h:=hO.mul_inv x B A;have hi:=hO.inv_lt x;constructor
 .intro e;rw[e,hO.mul_one x om A] at h;exact h
 .intro e;subst e;rwa[hO.one_mul hi.1 hi.2] at h
def lfM(L:Nat)(J:LL):LL:=J.map (List.take L)
def rgM(L:Nat)(J:LL):LL:=J.map (List.drop L)
theorem wH(L:Nat)(J:LL):(lfM L J).length=J.length:=by simp[lfM]
theorem rX(L:Nat)(J:LL):(rgM L J).length=J.length:=by simp[rgM]
theorem yE(L:Nat)(J:LL)(k:Nat):(lfM L J).getD k []=(J k []).take L:=by unfold lfM;rw[aZ4,List.getElem?_map,aZ4];cases J[k]?<;>simp
theorem vL(L:Nat)(J:LL)(k:Nat):(rgM L J).getD k []=(J k []).drop L:=by unfold rgM;rw[aZ4,List.getElem?_map,aZ4];cases J[k]?<;>simp
theorem G7(L:Nat)(J:LL)(i:Nat)(r:LI):lfM L (J.set i r)=(lfM L J).set i (r.take L):=by simp[lfM,List.map_set]
theorem IS(L:Nat)(J:LL)(i:Nat)(r:LI):rgM L (J.set i r)=(rgM L J).set i (r.drop L):=by simp[rgM,List.map_set]
theorem bk(L:Nat)(J:LL)(a k:Nat):lfM L (cY J a k)=cY (lfM L J) a k:=by unfold cY;rw[G7,G7,yE,yE]
theorem ev(L:Nat)(J:LL)(a k:Nat):rgM L (cY J a k)=cY (rgM L J) a k:=by unfold cY;rw[IS,IS,vL,vL]
theorem nU(r:LI)(L:Nat){c:Nat}(h:c<L):(r.take L).getD c 0=r c 0:=by simp[List.getD,List.getElem?_take,h]
theorem kH(r:LI)(L c:Nat):(r.drop L).getD c 0=r (L+c) 0:=by simp[List.getD,List.getElem?_drop]
theorem LC(O:aQ)(z:Int)(r:LI)(L:Nat):(bN O z r).take L=bN O z (r.take L):=by refine eK (by simp[gL]) fun i A B=>?_;rw[aY3,gL] at A;simp only[bN,aT,List.getElem_take,List.getElem_map,List.getElem_range];rw[nU _ _ om]
theorem K9(O:aQ)(z:Int)(r:LI)(L:Nat):(bN O z r).drop L=bN O z (r.drop L):=by refine eK (by simp[gL]) fun i A B=>?_;simp only[bN,aT,List.getElem_drop,List.getElem_map,List.getElem_range];rw[kH]
theorem I7(O:aQ)(v:LI)(z:Int)(u:LI)(L:Nat):(cQ O v z u).take L=cQ O (v.take L) z (u.take L):=by refine eK (by simp[kF]) fun i A B=>?_;rw[aY3,kF] at A;simp only[cQ,aT,List.getElem_take,List.getElem_map,List.getElem_range];rw[nU _ _ om,nU _ _ om]
theorem I6(O:aQ)(v:LI)(z:Int)(u:LI)(L:Nat):(cQ O v z u).drop L=cQ O (v.drop L) z (u.drop L):=by refine eK (by simp[kF]) fun i A B=>?_;simp only[cQ,aT,List.getElem_drop,List.getElem_map,List.getElem_range];rw[kH,kH]
def L4(v:Va)(us:Nat->Va)(n:Nat)(g:Nat):Prop:=v.ownBlock=some g\/∃i,i<n/\(us i).ownBlock=some g
theorem pP.keep{B:Nat}{X:Nat->Prop}{w w':Wo}{v:Va}{us:Nat->Va}{l:LL}(h:pP B X w v us l)(hk:∀g,L4 v us l g->w'.heap[g]?=w.heap[g]?):pP B X w' v us l:=by
 obtain⟨C,D,hi,J⟩:=h;refine⟨⟨C.1,?_⟩,fun i A=>⟨(D i A).1.keep fun g H=>hk g (.inr ⟨i,A,H⟩),(D i A).2⟩,hi,J⟩;rcases C.2 with hn|⟨g,E,F,rfl,G,I,rest⟩
 .exact .inl hn
 .exact .inr ⟨g,E,F,rfl,G,(hk g (.inl rfl)).trans I,rest⟩
theorem pP.xs{B:Nat}{X Y:Nat->Prop}{w:Wo}{v:Va}{us:Nat->Va}{l:LL}(h:pP B X w v us l)(E:∀g,L4 v us l g->Y g->X g):pP B Y w v us l:=by obtain⟨F,D,hi,G⟩:=h;exact⟨F,fun i C=>⟨(D i C).1,fun g A=>⟨((D i C).2 g A).1,fun h=>((D i C).2 g A).2 (E g (.inr ⟨i,C,A⟩) h)⟩⟩,hi,fun g A h=>G g A (E g (.inl A) h)⟩
theorem pP.nx{B:Nat}{X:Nat->Prop}{w:Wo}{v:Va}{us:Nat->Va}{l:LL}(h:pP B X w v us l){g:Nat}(A:L4 v us l g):¬X g:=by
 obtain⟨E,C,hi,D⟩:=h;rcases A with A|⟨i,hi,A⟩
 .exact D g A
 .exact((C i hi).2 g A).2
theorem pP.lt{B:Nat}{X:Nat->Prop}{w:Wo}{v:Va}{us:Nat->Va}{l:LL}(h:pP B X w v us l){g:Nat}(A:L4 v us l g):B<=g/\g<w.heap.size:=by
 obtain⟨C,D,hi,E⟩:=h;rcases A with A|⟨i,hi,A⟩
 .exact World.ownsRow.lt C g A
 .exact(D i hi).1.lt A
def kW(B:Nat)(X:Nat->Prop)(w:Wo)(v:Va)(l:LL)(y:Va)(t:LL):Prop:=
 ∃us A,pP B (fun g=>X g\/L4 y A t g) w v us l/\pP B (fun g=>X g\/L4 v us l g) w y A t
section
variable {B:Nat} {X:Nat->Prop} {w w':Wo} {v y:Va} {l l' t:LL}
theorem kW.symm(h:kW B X w v l y t):kW B X w y t v l:=by obtain⟨us,D,A,C⟩:=h;exact⟨D,us,C,A⟩
theorem kW.om(h:kW B X w v l y t):OM B X w v l:=by obtain⟨us,C,A,_⟩:=h;exact⟨us,A.xs fun g _ h=>.inl h⟩
theorem kW.on(h:kW B X w v l y t)(E:Below w w w'):kW B X w' v l y t:=by obtain⟨us,F,C,D⟩:=h;exact⟨us,F,C.keep fun g A=>E.block g (C.lt A).2,D.keep fun g A=>E.block g (D.lt A).2⟩
theorem kW.grown(h:kW B X w v l y t){row:Option Nat}(A:w.grownBy w' row)(C:∀g,row=some g->X g):kW B X w' v l y t:=by obtain⟨us,F,D,E⟩:=h;exact⟨us,F,D.grown A fun g e=>.inl (C g e),E.grown A fun g e=>.inl (C g e)⟩
theorem kW.names{Y:Nat->Prop}(h:kW B X w v l y t)(E:∀g,g<w.heap.size->Y g->X g):kW B Y w v l y t:=by obtain⟨us,F,C,D⟩:=h;exact⟨us,F,C.xs fun g A h=>h.elim (fun h=>.inl (E g (C.lt A).2 h)) .inr,D.xs fun g A h=>h.elim (fun h=>.inl (E g (D.lt A).2 h)) .inr⟩
theorem kW.split(h:kW B X w v l y t):∃C:Nat->Prop,OM B C w v l/\(∀g,X g->C g)/\(∀g,C g->X g\/(B<=g/\g<w.heap.size))/\∀w' l',OM B C w' v l'->KX B C w w'->kW B X w' v l' y t:=by obtain⟨us,F,G,E⟩:=h;refine⟨fun g=>X g\/L4 y F t g,⟨us,G⟩,fun g A=>.inl A,fun g A=>A.elim .inl fun h=>.inr (E.lt h),fun w' l' D hk=>?_⟩;obtain⟨J,D⟩:=D;refine⟨J,F,D,(E.keep fun g A=>hk.box g (.inr A) (E.lt A).2).xs fun g A I=>I.elim .inl fun H=>aB (.inr A) (D.nx H)⟩
end
def UV(B:Nat)(X:Nat->Prop)(w:Wo)(v:Va)(l':LL)(y:Va)(A:LL)(e:Ending)(w':Wo):Prop:=e=.returned (.tuple #[])/\kW B X w' v l' y A/\KX B X w w'
section
variable {w:Wo} {B g n c gy cy g4 g5 g7 gk ga gi gx a k i A:Nat} {X:Nat->Prop} {l t:LL}
theorem QY(r:w.cell? g5=some (.slice g n c))(q:w.cell? g7=some (.slice gy n cy))(x7:X g7)(u:0<n)
 (N:kW B X w (.slice g n c) l (.slice gy n cy) t)(hn:l=n)(Q:t=n)(M:a<n)(hk:k<n)(J:a≠k)(L:X gk)(K:X ga)
 (H:w.cell? gk=some (k:aV))(G:w.cell? ga=some (a:aV))(hB:B<=w):
 Calls prog 273 #[.func (.func 274) #[] #[.pointer gk,.pointer ga],.pointer g5,.pointer g7] w (UV B X w (.slice g n c) (cY l a k) (.slice gy n cy) (cY t a k)):=by
 obtain⟨o,O,D,_,R⟩:=N.split;have W:=zh (zP w B g n c gk ga a k o l O hn M hk J (D _ L) (D _ K) H G hB);have h:=zh R;have F:=zh D;have d:=zh J;have f:=zh Q;have V:=zh H;have U:=zh G;have T:=zh hB;clear N H G J hn Q R O;go_enter func273,ntmps273;go_wp2_with fail;apply W.mono;rintro e w1⟨rfl,C,A⟩;have s:=A.cell q (F _ x7);obtain⟨p,P,E,_,S⟩:=(h _ _ C A).symm.split;have Y:=zh (zP w1 B gy n cy gk ga a k p t P f M hk d (E _ L) (E _ K) (A.cell V (F _ L)) (A.cell U (F _ K)) (aZ6 T A.size));have i:=zh S;have Z:=zh (A.less D);have m:=zh E;clear C A P S D E;go_wp2_with fail;apply Y.mono;rintro e w2⟨rfl,C,I⟩;have j:=zh (i _ _ C I).symm;have b:=zh (Z.trans (I.less m));clear C I;go_wp2;refine bodyPost_end (results_none rfl _ _ _) rfl ?_;exact⟨rfl,j.out,b.out⟩
theorem Q0{D:Wo}{P M z:Int}{Mq:LI}(φ:w.cell? g5=some (.slice g n c))(ρ:w.cell? g7=some (.slice gy n cy))(x7:X g7)(ψ:0<n)
 (K:GF D A P M Mq)(L:Below D D w)(J:D<=B)
 (U:kW B X w (.slice g n c) l (.slice gy n cy) t)(hn:l=n)(b:t=n)(R:a<n)(N:∀g,X g->g<w.heap.size)
 (Y:(l a []).length<=100000)(i:∀k,I64 ((l a []).getD k 0))(Z:(t a []).length<=100000)(j:∀k,I64 ((t a []).getD k 0))(x4:X g4)(τ:X gi)(σ:X ga)
 (G:w.cell? g4=some (.pointer A))(I:w.cell? gi=some (z:aV))(H:w.cell? ga=some (a:aV))(hB:B<=w):
 Calls prog 273 #[.func (.func 276) #[] #[.pointer g4,.pointer gi,.pointer ga],.pointer g5,.pointer g7] w
  (UV B X w (.slice g n c) (l.set a (bN (aD P M Mq) z (l a []))) (.slice gy n cy) (t.set a (bN (aD P M Mq) z (t a [])))):=by
 obtain⟨ξ,V,Q,S,d⟩:=U.split;have v:=zh (DE D w B A g n c g4 gi ga a P M z Mq ξ l K L J V hn R (fun g h=>(S g h).elim (N g) (fun h=>h.2)) Y i G I H hB);have η:=zh d;have F:=zh Q;have ζ:=zh b;have p:=zh G;have r:=zh I;have q:=zh H;have o:=zh hB;have s:=zh K;have u:=zh L;have ε:=zh Z;have ι:=zh j;have ν:=zh N;clear U G I H hn b d V K L N Y i Z j S;go_enter func273,ntmps273;go_wp2_with fail;apply v.mono;rintro e w1⟨rfl,E,C⟩;have χ:=C.cell ρ (F _ x7);obtain⟨π,W,m,T,f⟩:=(η _ _ E C).symm.split;have x:=zh (DE D w1 B A gy n cy g4 gi ga a P M z Mq π t s (u.trans (C.bel.mono J)) J W ζ R (fun g h=>(T g h).elim (fun h=>aY1 (ν.out g h) C.size) (fun h=>h.2)) ε ι (C.cell p (F _ x4)) (C.cell r (F _ τ)) (C.cell q (F _ σ)) (aZ6 o C.size));have θ:=zh f;have y:=zh (C.less Q);have μ:=zh m;clear E C W f Q m T;go_wp2_with fail;apply x.mono;rintro e w2⟨rfl,E,O⟩;have κ:=zh (θ _ _ E O).symm;have δ:=zh (y.trans (O.less μ));clear E O;go_wp2;refine bodyPost_end (results_none rfl _ _ _) rfl ?_;exact⟨rfl,κ.out,δ.out⟩
theorem Q6{F:Wo}{L L2:Nat}{P M x:Int}{Mq:LI}(Ac:w.cell? g5=some (.slice g n c))(τ:w.cell? g7=some (.slice gy n cy))(x7:X g7)(Ae:0<n)
 (Q:GF F A P M Mq)(R:Below F F w)(O:F<=B)
 (d:kW B X w (.slice g n c) l (.slice gy n cy) t)(hn:l=n)(m:t=n)(hi:i<n)(b:a<n)(T:i≠a)
 (Y:∀j,j<n->(l j []).length=L/\∀k,I64 ((l j []).getD k 0))(φ:0<L)(χ:L<=100000)
 (Z:∀j,j<n->(t j []).length=L2/\∀k,I64 ((t j []).getD k 0))(ψ:0<L2)(ω:L2<=100000)(x4:X g4)(V:X gi)(W:X gx)(U:X ga)
 (I:w.cell? g4=some (.pointer A))(K:w.cell? gi=some (i:aV))(N:w.cell? gx=some (x:aV))(J:w.cell? ga=some (a:aV))(hB:B<=w):
 Calls prog 273 #[.func (.func 277) #[] #[.pointer g4,.pointer gi,.pointer gx,.pointer ga],.pointer g5,.pointer g7] w
  (UV B X w (.slice g n c) (l.set i (cQ (aD P M Mq) (l i []) (iO P M x) (l a []))) (.slice gy n cy) (t.set i (cQ (aD P M Mq) (t i []) (iO P M x) (t a [])))):=by
 obtain⟨ρ,f,D,Aa,o⟩:=d.split;have δ:=zh (DB F w B A g n c L g4 gi gx ga i a P M x Mq ρ l Q R O f hn hi b T Y φ χ (D _ x4) (D _ V) (D _ W) (D _ U) I K N J hB);have μ:=zh o;have G:=zh D;have κ:=zh m;have r:=zh I;have u:=zh K;have v:=zh N;have s:=zh J;have q:=zh hB;have y:=zh Q;have z:=zh R;have θ:=zh Z;have ι:=zh T;clear d I K N J hn m o f Q R Y Z Aa T;go_enter func273,ntmps273;go_wp2_with fail;apply δ.mono;rintro e w1⟨rfl,H,C⟩;have Ad:=C.cell τ (G _ x7);obtain⟨σ,h,E,Ab,p⟩:=(μ _ _ H C).symm.split;have ε:=zh (DB F w1 B A gy n cy L2 g4 gi gx ga i a P M x Mq σ t y (z.trans (C.bel.mono O)) O h κ hi b ι θ ψ ω (E _ x4) (E _ V) (E _ W) (E _ U) (C.cell r (G _ x4)) (C.cell u (G _ V)) (C.cell v (G _ W)) (C.cell s (G _ U)) (aZ6 q C.size));have ν:=zh p;have ζ:=zh (C.less D);have π:=zh E;clear H C h p D E Ab;go_wp2_with fail;apply ε.mono;rintro e w2⟨rfl,H,S⟩;have ξ:=zh (ν _ _ H S).symm;have η:=zh (ζ.trans (S.less π));clear H S;go_wp2;refine bodyPost_end (results_none rfl _ _ _) rfl ?_;exact⟨rfl,ξ.out,η.out⟩
end
def rE(B:Nat)(X:Nat->Prop)(w:Wo)(v:Va)(l:LL)(y:Va)(t:LL):Prop:=
 (y=.slice none 0 0/\OM B X w v l)\/kW B X w v l y t
section
variable {B:Nat} {X:Nat->Prop} {w w':Wo} {v y:Va} {l l' t:LL}
theorem rE.om(h:rE B X w v l y t):OM B X w v l:=h.elim (fun h=>h.2) kW.om
theorem rE.on(h:rE B X w v l y t)(A:Below w w w'):rE B X w' v l y t:=h.imp (fun h=>⟨h.1,h.2.below A⟩) fun h=>h.on A
theorem rE.grown(h:rE B X w v l y t){row:Option Nat}(A:w.grownBy w' row)(C:∀g,row=some g->X g):rE B X w' v l y t:=h.imp (fun h=>⟨h.1,h.2.grown A C⟩) fun h=>h.grown A C
theorem rE.names{Y:Nat->Prop}(h:rE B X w v l y t)(A:∀g,g<w.heap.size->Y g->X g):rE B Y w v l y t:=h.imp (fun h=>⟨h.1,h.2.names A⟩) fun h=>h.names A
end
def UU(B:Nat)(X:Nat->Prop)(w:Wo)(v:Va)(l':LL)(y:Va)(A:LL)(e:Ending)(w':Wo):Prop:=e=.returned (.tuple #[])/\rE B X w' v l' y A/\KX B X w w'
section
variable {w:Wo} {B g n c g4 g5 g7 gk ga gi gx a k i A:Nat} {X:Nat->Prop} {l t:LL} {y:Va}
theorem kW.yform{B:Nat}{X:Nat->Prop}{w:Wo}{v y:Va}{l t:LL}(h:kW B X w v l y t)(A:0<t.length):∃gy cy,y=.slice (some ⟨gy,0,none⟩) t cy:=by obtain⟨gy,cy,e,_⟩:=h.symm.om.formP A;exact⟨gy,cy,e⟩
theorem Z6(E:w.cell? g5=some (.slice g n c))(F:w.cell? g7=some y)(x7:X g7)(J:0<n)
 (N:rE B X w (.slice g n c) l y t)(hn:l=n)(C:t=n)(I:a<n)(hk:k<n)(K:a≠k)(M:X gk)(L:X ga)
 (H:w.cell? gk=some (k:aV))(G:w.cell? ga=some (a:aV))(hB:B<=w):
 Calls prog 273 #[.func (.func 274) #[] #[.pointer gk,.pointer ga],.pointer g5,.pointer g7] w (UU B X w (.slice g n c) (cY l a k) y (cY t a k)):=by
 rcases N with⟨rfl,h⟩|h
 .exact(QX E F x7 h hn I hk K M L H G hB).mono fun e w'⟨A,D,hk⟩=>⟨A,.inl ⟨rfl,D⟩,hk⟩
 .obtain⟨gy,cy,rfl⟩:∃gy cy,y=.slice (some ⟨gy,0,none⟩) n cy:=by
   have:=h.yform (by rw[C];exact J);rwa[C] at this
  exact(QY E F x7 J h hn C I hk K M L H G hB).mono fun e w'⟨A,D,hk⟩=>⟨A,.inr D,hk⟩
theorem Z7{C:Wo}{P M z:Int}{Mq:LI}(H:w.cell? g5=some (.slice g n c))(I:w.cell? g7=some y)(x7:X g7)(T:0<n)
 (N:GF C A P M Mq)(O:Below C C w)(L:C<=B)
 (V:rE B X w (.slice g n c) l y t)(hn:l=n)(E:t=n)(R:a<n)(Q:∀g,X g->g<w.heap.size)
 (S:(l a []).length<=100000)(U:∀k,I64 ((l a []).getD k 0))(W:(t a []).length<=100000)(Y:∀k,I64 ((t a []).getD k 0))(x4:X g4)(b:X gi)(Z:X ga)
 (G:w.cell? g4=some (.pointer A))(K:w.cell? gi=some (z:aV))(J:w.cell? ga=some (a:aV))(hB:B<=w):
 Calls prog 273 #[.func (.func 276) #[] #[.pointer g4,.pointer gi,.pointer ga],.pointer g5,.pointer g7] w
  (UU B X w (.slice g n c) (l.set a (bN (aD P M Mq) z (l a []))) y (t.set a (bN (aD P M Mq) z (t a [])))):=by
 rcases V with⟨rfl,h⟩|h
 .exact(QZ H I x7 N O L h hn R Q S U G K J hB).mono fun e w'⟨D,F,hk⟩=>⟨D,.inl ⟨rfl,F⟩,hk⟩
 .obtain⟨gy,cy,rfl⟩:∃gy cy,y=.slice (some ⟨gy,0,none⟩) n cy:=by
   have:=h.yform (by rw[E];exact T);rwa[E] at this
  exact(Q0 H I x7 T N O L h hn E R Q S U W Y x4 b Z G K J hB).mono fun e w'⟨D,F,hk⟩=>⟨D,.inr F,hk⟩
theorem Z8{C:Wo}{L L2:Nat}{P M x:Int}{Mq:LI}(H:w.cell? g5=some (.slice g n c))(I:w.cell? g7=some y)(x7:X g7)(W:0<n)
 (Q:GF C A P M Mq)(R:Below C C w)(O:C<=B)
 (p:rE B X w (.slice g n c) l y t)(hn:l=n)(E:t=n)(hi:i<n)(V:a<n)(Y:i≠a)
 (S:∀j,j<n->(l j []).length=L/\∀k,I64 ((l j []).getD k 0))(T:0<L)(U:L<=100000)
 (f:∀j,j<n->(t j []).length=L2/\∀k,I64 ((t j []).getD k 0))(m:y≠.slice none 0 0->0<L2)(o:L2<=100000)(x4:X g4)(b:X gi)(d:X gx)(Z:X ga)
 (G:w.cell? g4=some (.pointer A))(K:w.cell? gi=some (i:aV))(N:w.cell? gx=some (x:aV))(J:w.cell? ga=some (a:aV))(hB:B<=w):
 Calls prog 273 #[.func (.func 277) #[] #[.pointer g4,.pointer gi,.pointer gx,.pointer ga],.pointer g5,.pointer g7] w
  (UU B X w (.slice g n c) (l.set i (cQ (aD P M Mq) (l i []) (iO P M x) (l a []))) y (t.set i (cQ (aD P M Mq) (t i []) (iO P M x) (t a [])))):=by
 rcases p with⟨rfl,h⟩|h
 .exact(Q2 H I x7 Q R O h hn hi V Y S T U x4 b d Z G K N J hB).mono fun e w'⟨D,F,hk⟩=>⟨D,.inl ⟨rfl,F⟩,hk⟩
 .obtain⟨gy,cy,rfl⟩:∃gy cy,y=.slice (some ⟨gy,0,none⟩) n cy:=by
   have:=h.yform (by rw[E];exact W);rwa[E] at this
  exact(Q6 H I x7 W Q R O h hn E hi V Y S T U f (m (fun e=>by cases e)) o x4 b d Z G K N J hB).mono fun e w'⟨D,F,hk⟩=>⟨D,.inr F,hk⟩
end
structure EJ(L:Nat)(w0 wr:Wo)(v av u:Va)(J:LL)(piv:LI)(X:Nat->Prop)(A b4 b5 b7:Nat):Prop where
 om:rE w0 X wr v (lfM L J) av (rgM L J)
 xb:∀g,X g->g<wr.heap.size
 oi:OI w0 wr u piv
 xu:∀g,u.ownBlock=some g->X g
 nu:∀g,u.ownBlock=some g->g≠b4/\g≠b5/\g≠b7
 bel:Below w0 w0 wr
 x4:X b4
 x5:X b5
 x7:X b7
 k4:Blk wr b4 57 [.pointer A]
 k5:Blk wr b5 25 [v]
 k7:Blk wr b7 25 [av]
section
variable {L:Nat} {w0 wr w1:Wo} {v av u:Va} {l l':LL} {piv:LI} {X:Nat->Prop} {A b4 b5 b7:Nat}
theorem EJ.on(h:EJ L w0 wr v av u l piv X A b4 b5 b7)(B:Below wr wr w1):EJ L w0 w1 v av u l piv X A b4 b5 b7:=
 ⟨h.om.on B,fun g C=>aY1 (h.xb g C) B.size,h.oi.below B zr,h.xu,h.nu,h.bel.trans (B.mono h.bel.size),h.x4,h.x5,h.x7,h.k4.belowS B,h.k5.belowS B,h.k7.belowS B⟩
theorem EJ.kx(h:EJ L w0 wr v av u l piv X A b4 b5 b7)(C:rE w0 X w1 v (lfM L l') av (rgM L l'))(hk:KX w0 X wr w1):EJ L w0 w1 v av u l' piv X A b4 b5 b7:=
 ⟨C,fun g B=>aY1 (h.xb g B) hk.size,hk.oi h.oi h.xu,h.xu,h.nu,h.bel.trans hk.bel,h.x4,h.x5,h.x7,hk.blk h.k4 h.x4,hk.blk h.k5 h.x5,hk.blk h.k7 h.x7⟩
theorem EJ.box(h:EJ L w0 wr v av u l piv X A b4 b5 b7)(o:Obj):EJ L w0 (wr.alloc o) v av u l piv (fun g=>X g\/g=wr.heap.size) A b4 b5 b7:=by
 have C:=h.on (aH wr o);refine⟨(h.om.names (fun g D B=>B.resolve_right (by omega))).on (aH wr o),fun g B=>?_,C.oi,fun g B=>.inl (h.xu g B),h.nu,C.bel,.inl h.x4,.inl h.x5,.inl h.x7,C.k4,C.k5,C.k7⟩;rw[World.size_alloc];rcases B with B|B
 .have:=h.xb g B;omega
 .omega
theorem EJ.name(h:EJ L w0 wr v av u l piv X A b4 b5 b7)(D:Below wr.heap.size wr w1){gi:Nat}(E:wr.heap.size<=gi)(G:gi<w1.heap.size):EJ L w0 w1 v av u l piv (fun g=>X g\/g=gi) A b4 b5 b7:=by
 have C:=h.on D;refine⟨(h.om.names (Y:=fun g=>X g\/g=gi) (fun g F B=>B.resolve_right (by omega))).on D,fun g B=>?_,C.oi,fun g B=>.inl (h.xu g B),h.nu,C.bel,.inl h.x4,.inl h.x5,.inl h.x7,C.k4,C.k5,C.k7⟩;rcases B with B|B
 .exact C.xb g B
 .omega
theorem EJ.set(h:EJ L w0 wr v av u l piv X A b4 b5 b7){b i:Nat}(G:X b)(hB:w0<=b)(F:∀g,u.ownBlock=some g->g≠b)(C:b4≠b)(D:b5≠b)(E:b7≠b)(y:Va):EJ L w0 (wr.setCell ⟨b,i,none⟩ y) v av u l piv X A b4 b5 b7:=
 ⟨h.om.grown (aU wr b i y) (fun g B=>by cases B;exact G),fun g B=>by have:=h.xb g B;simpa[World.setCell] using this,
  h.oi.grown (aU wr b i y) (fun g B e=>F g B (aZ0 e).symm),h.xu,h.nu,h.bel.setCell (p:=⟨b,i,none⟩) hB y,h.x4,h.x5,h.x7,h.k4.far (p:=⟨b,i,none⟩) C y,h.k5.far (p:=⟨b,i,none⟩) D y,h.k7.far (p:=⟨b,i,none⟩) E y⟩
theorem EJ.push{v':Va}{y:Int}{o:Obj}(h:EJ L w0 wr v av u l piv X A b4 b5 b7)(I:OI w0 w1 v' (piv++[y]))(F:(wr.alloc o).grownBy w1 u.ownBlock)
 (C:v'.ownBlock=u.ownBlock\/v'.ownBlock=some (wr.alloc o).heap.size):EJ L w0 w1 v av v' l (piv++[y]) (fun g=>X g\/v'.ownBlock=some g) A b4 b5 b7:=by
 have E:=h.on (aH wr o);have H:∀b,(b=b4\/b=b5\/b=b7)->some b≠u.ownBlock:=fun b K e=>by have:=h.nu b e.symm;omega
 have G:∀b,X b->b<(wr.alloc o).heap.size:=E.xb;refine⟨?_,fun g D=>?_,I,fun g D=>.inr D,fun g D=>?_,E.bel.grown F E.bel.size (fun k hk=>(h.oi.lt hk).1),.inl h.x4,.inl h.x5,.inl h.x7,E.k4.grown F (H b4 (.inl rfl)),E.k5.grown F (H b5 (.inr (.inl rfl))),E.k7.grown F (H b7 (.inr (.inr rfl)))⟩
 .refine(E.om.names (Y:=fun g=>X g\/v'.ownBlock=some g) (fun g M B=>?_)).grown F (fun J D=>.inl (h.xu J D));rcases B with B|B
  .exact B
  .rcases C with C|C
   .exact h.xu g (by rw[<-C];exact B)
   .rw[C] at B;have:=aZ0 B;omega
 .rcases D with B|B
  .exact aY1 (G g B) F.size
  .exact(I.lt B).2
 .rcases C with C|C
  .exact h.nu g (by rw[<-C];exact D)
  .rw[C] at D;have e:=aZ0 D;have:=G _ h.x4;have:=G _ h.x5;have:=G _ h.x7;omega
theorem EJ.row{g n c:Nat}(h:EJ L w0 wr (.slice (some ⟨g,0,none⟩) n c) av u l piv X A b4 b5 b7){k:Nat}(hk:k<l.length){N:Nat}(I:(l.getD k []).length=N)(G:L<=N)(H:0<L):
  ∃q C,wr.cell? ⟨g,k,none⟩=some (.slice (some ⟨q,0,none⟩) L C)/\∀j,j<L->wr.cell? ⟨q,j,none⟩=some (.int .i64 ((l.getD k []).getD j 0)):=by
 obtain⟨J,D,B,_⟩:=h.om.om.row (k:=k) (by rw[wH];exact hk);rw[yE] at B;have F:((l.getD k []).take L).length=L:=by rw[aY3];omega
 obtain⟨q,C,rfl,_,_⟩:=B.form (by omega);refine⟨q,C,by rw[F] at D;exact D,fun j E=>?_⟩;have:=B.cell j (by omega);rwa[nU _ _ E] at this
end
def kf(L:Nat)(w0:Wo)(v av:Va)(l:LL)(piv:LI)(e:Ending)(w':Wo):Prop:=
 ∃u d,e=.returned (.tuple #[u,.int .i64 d])/\rE w0 (fun g=>g<w0.heap.size\/u.ownBlock=some g) w' v (lfM L l) av (rgM L l)/\OI w0 w' u piv/\Below w0 w0 w'
def kg(L:Nat)(w0:Wo)(v av:Va)(l:LL)(piv:LI)(e:Ending)(w':Wo):Prop:=
 ∃u d,e=.returned (.tuple #[u,.int .i64 d])/\kW w0 (fun g=>g<w0.heap.size\/u.ownBlock=some g) w' v (lfM L l) av (rgM L l)/\OI w0 w' u piv/\Below w0 w0 w'
theorem ez{q:Int}{L N:Nat}{J:LL}{j:Nat}(h:(J j []).length=N/\∀k,0<=(J j []).getD k 0/\(J j []).getD k 0<q)(A:L<=N)(hq:q<=1000000):((lfM L J).getD j []).length=L/\∀k,I64 (((lfM L J).getD j []).getD k 0):=by
 rw[yE];refine⟨by rw[aY3];omega,fun k=>?_⟩;by_cases hk:k<L
 .rw[nU _ _ hk];have:=h.2 k;exact I64.of_small om om
 .rw[aZ4,aY4 (by rw[aY3];omega)];exact I64.zero
theorem PM{q:Int}{L N:Nat}{J:LL}{j:Nat}(h:(J j []).length=N/\∀k,0<=(J j []).getD k 0/\(J j []).getD k 0<q)(hq:q<=1000000):((rgM L J).getD j []).length=N-L/\∀k,I64 (((rgM L J).getD j []).getD k 0):=by rw[vL];refine⟨by rw[List.length_drop];omega,fun k=>?_⟩;rw[kH];have:=h.2 (L+k);exact I64.of_small om om
theorem eh{q:Int}{L N:Nat}{J:LL}{j:Nat}(h:(J j []).length=N/\∀k,0<=(J j []).getD k 0/\(J j []).getD k 0<q)(A:N<=100000)(hq:q<=1000000):((lfM L J).getD j []).length<=100000/\∀k,I64 (((lfM L J).getD j []).getD k 0):=by
 rw[yE];refine⟨by rw[aY3];omega,fun k=>?_⟩;by_cases hk:k<L
 .rw[nU _ _ hk];have:=h.2 k;exact I64.of_small om om
 .rw[aZ4,aY4 (by rw[aY3];omega)];exact I64.zero
theorem em{q:Int}{L N:Nat}{J:LL}{j:Nat}(h:(J j []).length=N/\∀k,0<=(J j []).getD k 0/\(J j []).getD k 0<q)(A:N<=100000)(hq:q<=1000000):((rgM L J).getD j []).length<=100000/\∀k,I64 (((rgM L J).getD j []).getD k 0):=by rw[vL];refine⟨by rw[List.length_drop];omega,fun k=>?_⟩;rw[kH];have:=h.2 (L+k);exact I64.of_small om om
theorem O7 (w0 w : Wo) (A : Nat) (P M : Int) (δ L N n g H m cy : Nat) (Q : OA) (Mq : LI) (rows : LL) (Ct : GF w0 A P M Mq) (Du : rE w0.heap.size (fun g => g < w0.heap.size) w (.slice (some ⟨g, 0, none⟩) n H) (lfM L rows) (.slice Q m cy) (rgM L rows))
 (hn:rows.length=n)(Cy:0<n)(E:Below w0.heap.size w0 w)(hR:Rows (aF P M) N rows)(Gs:δ<=L)(Gm:L<=N)(Fv:Value.slice Q m cy≠.slice none 0 0->L<N)(Dt:N<=100000)(Gy:n<=100000):
 Calls prog 161 #[.pointer A,.slice g n H,δ,.slice Q m cy] w
  (kf L w0 (.slice g n H) (.slice Q m cy) (aJ (aD P M Mq) rows δ).1 (aJ (aD P M Mq) rows δ).2):=by
 have Dz:=Ct.fld;have Bs:=Dz.1;have Av:=zh (iJ Bs Mq);have Bz:=zh (dR Dz);have Eg:=aM P M;have Al:=zh Ct;clear Ct;obtain⟨O,hO⟩:=xE (aD P M Mq);rw[<-hO] at Av Bz|-;have Cj:=zh hO;clear hO;obtain⟨q,hq⟩:=xE (aF P M);rw[<-hq] at Av Bz hR Eg;have Fc:=zh hq;clear hq;obtain⟨Ha,Hb⟩:=Eg;have Fe:=zh hR;have Dj:=zh hn;have Gl:=zh E;have Gc:=E.size
 have Bx:Hid (EJ L w0 (((w.alloc (.cells #[.pointer A] 57)).alloc (.cells #[.slice g n H] 25)).alloc (.cells #[.slice Q m cy] 25)) (.slice g n H) (.slice Q m cy) (.slice none 0 0) rows []
  (fun b=>((b<w0.heap.size\/b=w.heap.size)\/b=w.heap.size+1)\/b=w.heap.size+1+1) A w.heap.size (w.heap.size+1) (w.heap.size+1+1)):=by
  have Ek:(w.alloc (.cells #[.pointer A] 57)).heap.size=w.heap.size+1:=World.size_alloc _ _;have El:((w.alloc (.cells #[.pointer A] 57)).alloc (.cells #[.slice g n H] 25)).heap.size=w.heap.size+1+1:=by rw[World.size_alloc,Ek]
  have Fo:=Blk.new w 57 [.pointer A];have Do:=Blk.new (w.alloc (.cells #[.pointer A] 57)) 25 [.slice g n H];have Dp:=Blk.new ((w.alloc (.cells #[.pointer A] 57)).alloc (.cells #[.slice g n H] 25)) 25 [.slice Q m cy];rw[Ek] at Do;rw[El] at Dp;have Dy:=aC (aC (aH w (.cells #[.pointer A] 57)) (aH _ (.cells #[.slice g n H] 25))) (aH _ (.cells #[.slice Q m cy] 25));refine⟨(Du.names fun b Gx F=>?_).on Dy,fun b F=>?_,OI.nil _ _,fun g Aq=>by simp[Value.ownBlock] at Aq,fun g Aq=>by simp[Value.ownBlock] at Aq,E.trans (Dy.mono Gc),.inl (.inl (.inr rfl)),.inl (.inr rfl),.inr rfl,(Fo.alloc _).alloc _,Do.alloc _,Dp⟩
  .rcases F with((F|F)|F)|F
   .exact F
   .omega
   .omega
   .omega
  .rw[World.size_alloc,El];rcases F with((F|F)|F)|F<;>omega
 clear Du hn E hR;go_enter func161,ntmps161;go_wp2_with fail;generalize (((w.alloc (.cells #[.pointer A] 57)).alloc (.cells #[.slice g n H] 25)).alloc (.cells #[.slice Q m cy] 25))=w1 at*;generalize hX0:(fun b=>((b<w0.heap.size\/b=w.heap.size)\/b=w.heap.size+1)\/b=w.heap.size+1+1)=X0 at*;have Dl:Hid (∀b,b<w0.heap.size->X0 b):=aG fun b E=>by rw[<-hX0];exact .inl (.inl (.inl E))
 have Eo:Hid (w.heap.size≠w.heap.size+1):=aG om;obtain⟨b4,Ap⟩:=xE w.heap.size;obtain⟨b5,Dw⟩:=xE (w.heap.size+1);obtain⟨b7,Dx⟩:=xE (w.heap.size+1+1);rw[<-Dx,<-Dw,<-Ap] at Bx|-;have Gq:w0.heap.size<=b4/\w0.heap.size<=b5/\w0.heap.size<=b7:=om;clear hX0 Ap Dw Dx Eo;go_wp2_with fail;go_loopw [10,12,13] (fun d u x wr=>∃(c:Nat) (l:LL) (piv:LI) (X:Nat->Prop) (z:Int),c<=δ/\x=(c:aV)/\d=(z:aV)/\Hid (aJ O rows c=(l,piv))/\Hid (∀b,b<w0.heap.size->X b)/\Hid (EJ L w0 wr (.slice g n H) (.slice Q m cy) u l piv X A b4 b5 b7)) (fun _ _ x _=>(δ-intOf x).toNat)
 case atStart=>exact⟨0,rows,[],X0,1,aZ5 _,rfl,rfl,rfl,Dl,Bx⟩
 case round=>
  clear Bx Dl;obtain⟨c,l,piv,X,z,Gr,rfl,rfl,At,μ,C⟩:=hrel;have Bt:=qG Av.out Fe.out c At.out;have R:Hid (l.length=n):=by rw[<-Dj.out];exact Bt.2.1
  have Ce:=zh Bt.1;have Gp:piv.length<=n:=by have:=Bt.2.2.1;rw[Dj.out] at this;exact this
  clear Bt;obtain⟨Aj,Ak,rfl⟩:=C.oi.form';generalize ha:piv.length=a at*;have ε:=zh ha;clear ha;have T:wr.cell? b5=some (.slice g n H):=C.k5.cell 0;by_cases Gu:c<δ
  case neg=>
   obtain rfl:δ=c:=om;go_wp2_with fail;go_ret2;rw[At.out];refine⟨_,_,rfl,C.om.names (fun b _ E=>E.elim (μ.out b) (C.xu b)),?_,C.bel⟩;rw[<-ε.out];have:=C.oi;rw[<-ε.out] at this;exact this
  by_cases f:a<n
  case neg=>
   have Et:Hid (aJ O rows δ=(l,piv)):=tI At.out (by rw[R.out,ε.out];exact f) δ om;have Gz:n<=a:=om;go_wp2_with fail;go_ret2;rw[Et.out];exact⟨_,_,rfl,C.om.names (fun b _ E=>E.elim (μ.out b) (C.xu b)),C.oi,C.bel⟩
  have Gt:c<L:=om;have Fx:=C.om.om.lt (g:=g) rfl;go_wp2_with fail;have Au:Hid (EJ L w0 ((wr.alloc (.cells #[a] 3)).alloc (.cells #[a] 3)) (.slice g n H) (.slice Q m cy) (.slice Aj a Ak) l piv (fun b=>(X b\/b=wr.heap.size)\/b=wr.heap.size+1) A b4 b5 b7):=by have:=(C.box (.cells #[a] 3)).box (.cells #[a] 3);rw[World.size_alloc] at this;exact this
  have J:Hid (Blk ((wr.alloc (.cells #[a] 3)).alloc (.cells #[a] 3)) wr.heap.size 3 [(a:aV)]):=(Blk.new wr 3 [(a:aV)]).alloc _;have κ:Hid (Blk ((wr.alloc (.cells #[a] 3)).alloc (.cells #[a] 3)) (wr.heap.size+1) 3 [(a:aV)]):=by have:=Blk.new (wr.alloc (.cells #[a] 3)) 3 [(a:aV)];rw[World.size_alloc] at this;exact this
  have Dk:Hid (∀b,(Value.slice Aj a Ak).ownBlock=some b->b<wr.heap.size):=aG fun b E=>C.xb b (C.xu b E);have Fl:Hid (∀b,X b->b<wr.heap.size):=aG C.xb;have Fy:=C.k4.lt;have Fz:=C.k5.lt;have Ga:=C.k7.lt;have Gb:=C.bel.size;generalize (wr.alloc (.cells #[a] 3)).alloc (.cells #[a] 3)=w2 at*;obtain⟨ga,Ea⟩:=xE wr.heap.size;obtain⟨gk,Eb⟩:=xE (wr.heap.size+1);rw[<-Eb] at Au κ|-;rw[<-Ea] at Au J|-;have Fw:ga≠gk:=om;obtain⟨o,Bd⟩:=xE (fun b=>(X b\/b=ga)\/b=gk:Nat->Prop);rw[<-Bd] at Au;have Cm:Hid (∀b,b<w0.heap.size->o b):=aG fun b E=>by rw[Bd];exact .inl (.inl (μ.out b E))
  have Bq:Hid (o ga):=by show o ga;rw[Bd];exact .inl (.inr rfl)
  have Cl:Hid (o gk):=by show o gk;rw[Bd];exact .inr rfl
  have Fr:w0.heap.size<=gk:=om;have Fg:Hid (∀b,(Value.slice Aj a Ak).ownBlock=some b->b≠gk):=aG fun b E=>by have:=Dk.out b E;omega
  have Fs:b4≠gk:=om;have Ft:b5≠gk:=om;have Fu:b7≠gk:=om;clear C μ Bd Ea Eb Dk Fl Fy Fz Ga Gb T Fx;go_loopw [] (fun wr=>∃k:Nat,a<=k/\k<=n/\Hid (gG l c n (n-a) a=gG l c n (n-k) k)/\Hid (EJ L w0 wr (.slice g n H) (.slice Q m cy) (.slice Aj a Ak) l piv o A b4 b5 b7)/\Hid (Blk wr ga 3 [(a:aV)])/\Hid (Blk wr gk 3 [(k:aV)])) (fun wr=>n-(intOf ((wr.cell? gk).getD (.int .i64 0))).toNat)
  case atStart=>exact⟨a,zr,om,rfl,Au,J,κ⟩
  case round=>
   clear Au J κ;obtain⟨k,Gn,Gw,Cb,C,J,κ⟩:=hrel;have Cs:wr.cell? gk=some (k:aV):=κ.cell 0;have Fq:=κ.frozen 0;have T:wr.cell? b5=some (.slice g n H):=C.k5.cell 0;by_cases Bg:k<n
   .have π:=(Ce k (by rw[R.out];exact Bg)).1;obtain⟨Hf,Ej,σ,ρ⟩:=C.row (k:=k) (by rw[R.out];exact Bg) π om om;have F:=ρ c om;obtain⟨x,Cz⟩:=xE ((l k []).getD c 0);rw[<-Cz] at F;have Ax:=zh Cz;clear Cz ρ π;by_cases Bu:x=0
    .subst Bu;have Dg:=zh (κ.set_ 0 (.int .i64 ((k:Int)+1)));have Ev:=zh (C.set (i:=0) Cl.out Fr Fg.out Fs Ft Fu (.int .i64 ((k:Int)+1)));have Er:=zh (J.far (p:=(gk:aA)) Fw (.int .i64 ((k:Int)+1)));go_wp2_with fail;refine⟨⟨k+1,om,om,?_,Ev,Er,by rw[show((k+1:Nat):Int)=(k:Int)+1 by push_cast;rfl];exact Dg⟩,?_⟩
     .show _=_;rw[Cb.out,show n-k=(n-(k+1))+1 from om,gG,iP Ax.out.symm]
     .have e:(wr.setCell gk (.int .i64 ((k:Int)+1))).cell? gk=some (.int .i64 ((k:Int)+1)):=Dg.cell 0;rw[Cs,e];show n-((k:Int)+1).toNat<n-(k:Int).toNat
      omega
    .have Gd:(x==0)=false:=by rw[eA];exact Bu
     have Bo:Hid (gG l c l.length (l.length-piv.length) piv.length=k):=by show _=_;rw[R.out,ε.out,Cb.out,show n-k=(n-(k+1))+1 from om,gG,iN (by rw[<-Ax.out];exact Bu)]
     have Ed:(((k:Nat):Int)==(n:Int))=false:=by rw[eA];omega
     have Ci:Hid (aJ O rows (c+1)=(lP O c l a k,piv++[(c:Int)])):=by show _=_;rw[pA At.out (by rw[R.out,ε.out];exact f) Bo.out,iN (by rw[R.out];omega),ε.out]
     have Az:Hid (0<x/\x<q):=by have h:=(Ce k (by rw[R.out];exact Bg)).2 c;rw[<-Ax.out] at h;exact⟨om,h.2⟩
     have ν:wr.cell? ga=some (a:aV):=J.cell 0;have Dq:wr.cell? b7=some (.slice Q m cy):=C.k7.cell 0;have Ab:=zh T;have Ac:=zh Dq;have As:=zh ν;have Dc:=zh Cs;clear Bu Bo
     go_upto_if 58 with(fail)
     go_cut [10] from 21 to 122 (fun d wc=>∃Bw,d=.int .i64 Bw/\Hid (EJ L w0 wc (.slice g n H) (.slice Q m cy) (.slice Aj a Ak) (cY l a k) piv o A b4 b5 b7)/\Hid (Blk wc ga 3 [(a:aV)]))
     case first=>
      by_cases Ec:k=a
      .subst Ec;have Bi:(((k:Nat):Int) !=(k:Int))=false:=by simp
       go_wp2_with fail;go_meet
       case rel=>exact⟨z,rfl,by rw[UE];exact C,J⟩
      .have Bi:(((k:Nat):Int) !=(a:Int))=true:=by rw[eC];omega
       go_wp2_with fail;refine(Z6 (X:=o) (B:=w0.heap.size) Ab Ac C.x7 Cy C.om (by rw[wH];exact R.out) (by rw[rX];exact R.out) f Bg (fun e=>Ec e.symm) Cl Bq Dc As C.bel.size).mono ?_;rintro e U ⟨rfl,Ef,Cx⟩;have G:=zh (C.kx (l':=cY l a k) (by rw[bk,ev];exact Ef) Cx);have ζ:=zh (Cx.blk J Bq);have Ba:U.cell? b4=some (.pointer A):=G.k4.cell 0;clear Ef Cx;go_wp2_with fail;refine(xU _ A P M z Mq (Al.below G.bel zr)).mono ?_;rintro e Hh ⟨rfl,Ap⟩;have V:=zh (G.on Ap);have Am:=zh (ζ.belowS Ap);clear Ap Ba;go_wp2_with fail;go_meet
       case rel=>exact⟨_,rfl,V,Am⟩
     case rest=>
      clear C J κ Cs Fq T σ F Gd Ed ν Dq Ab Ac As Dc;obtain⟨Bw,rfl,C,J⟩:=hcut;have η:Hid ((cY l a k).length=n):=by show _=_;rw[gQ,R.out]
      have Aw:=zh (Ce.swap (a:=a) (b:=k) (by rw[R.out];exact f) (by rw[R.out];exact Bg));have An:Hid (((cY l a k).getD a []).getD c 0=x):=by
       show _=_;rw[Ax.out];unfold cY;by_cases e:a=k
       .subst e;rw[fL,aZ9,iP ⟨rfl,by rw[R.out];exact f⟩]
       .rw[fL,aZ9,iN (fun h=>e h.1.symm),fL,iP ⟨rfl,by rw[R.out];exact f⟩]
      have Ck:Hid (lP O c l a k=bH O c a (dW O c a (cY l a k)) n):=by show _=_;unfold lP;rw[R.out]
      obtain⟨ls,Ee⟩:=xE (cY l a k);rw[<-Ee] at C η Aw An Ck;clear Ee Ax;have π:=(Aw.out a (by rw[η.out];exact f)).1;obtain⟨Hd,Ej,σ,ρ⟩:=C.row (k:=a) (by rw[η.out];exact f) π om om;have F:=ρ c om;rw[An.out] at F;have Ba:wc.cell? b4=some (.pointer A):=C.k4.cell 0;have T:wc.cell? b5=some (.slice g n H):=C.k5.cell 0;have ν:wc.cell? ga=some (a:aV):=J.cell 0;clear ρ π;go_wp2_with fail;refine te 11 Ba T ν σ F fun I=>?_;refine tq 0 ?_;refine tq 1 ?_;refine tq 2 ?_;refine tq 3 ?_;refine tq 4 ?_;refine tq 5 ?_;refine tq 6 ?_;refine tq 7 ?_;refine tq 8 ?_;try simp only[tz]
      refine tn 9 fun K hK=>?_;go_simp;refine(lE _ A P M Bw x Mq (Al.below (C.bel.trans ((aI wc).mono C.bel.size)) zr)).mono ?_;rintro e U ⟨rfl,Dv⟩;have θ:=zh (aC (aI wc) Dv);have G:=zh (C.on θ);have ζ:=zh (J.belowS θ);have Bb:=aE θ.out Ba;have Ae:=aE θ.out T;have da:=aE θ.out ν;have Af:=aE θ.out σ;have Ag:=aE θ.out F;clear Dv;refine hK.out _ _ (⟨Bb,Ae,da,Af,Ag⟩) ?_;clear hK K I;intro I;try simp only[tz]
      refine tn 10 fun K hK=>?_;go_simp;refine hK.out _ _ I (fun Bc=>?_);clear hK K;clear Bc;refine tw ?_;try simp only[tz]
      clear I;generalize bM P M Mq Bw x=Gk;clear C J Ba T ν σ F θ;go_upto_region 16 with fail;have τ:=zh Bb;have φ:=zh Ae;have χ:=zh da;have ψ:=zh Af;have ω:=zh Ag;have De:Hid (inQ (aF P M) x≠0):=by show _≠_;unfold inQ;rw[<-Fc.out,iP ⟨by have:=Az.out.1;omega,Az.out.2⟩];have:=Az.1;omega
      go_cut [16,17] from 21 to 122 (fun Ge Gf En=>∃gi,Ge=.pointer (some ⟨gi,0,none⟩)/\Gf=.int .i64 0/\U.heap.size<=gi/\Hid (Blk En gi 3 [.int .i64 (lY P M Mq x)])/\Hid (Below U.heap.size U En))
      case first=>
       refine te 15 Bb Ae da Af Ag fun I=>?_;have Cu:=aI U;generalize U.drew=Gg at Cu I|-;have D:=zh Cu;clear Bb Ae da Af Ag;clear Cu;refine tq 0 ?_;refine tq 1 ?_;refine tq 2 ?_;refine tq 3 ?_;refine tq 4 ?_;refine tq 5 ?_;refine tq 6 ?_;refine tq 7 ?_;try simp only[tz]
       refine bY.two (i:=8) (j:=12) (oi:=?opa2) (oj:=?opb2) kr ?hoa2 ?hob2 (fun K hK=>?way12) (fun K hK=>?way22)
       case hoa2=>(conv=>lhs;simp only[tdg,tdh,tdi])
       case hob2=>(conv=>lhs;simp only[tdg,tdh,tdi])
       case way12=>
        go_simp;refine(qJ _ A P M x Mq (Al.below (G.bel.trans (D.mono G.bel.size)) zr) De).mono ?_;rintro e Gi ⟨rfl,E⟩;replace D:=zh (aC D E);clear E;refine hK.out _ _ (⟨cb D τ,cb D φ,cb D χ,cb D ψ,cb D ω⟩) ?_;clear hK K I;intro I;try simp only[tz]
        refine tq 9 ?_;refine tq 10 ?_;refine tq 11 ?_;try simp only[tz]
        refine tp 12 fun K hK=>?_;go_simp;obtain⟨Gj,gi,r,s,W,E⟩:=aR Gi 3 [.int .i64 0];rw[r,s];have Y:=zh W;have ξ:U.heap.size<=gi:=(by have:=D.size;omega)
        replace D:=zh (aC D E);clear r s W E;refine hK.out _ _ (⟨cb D τ,cb D φ,cb D χ,cb D ψ,cb D ω⟩) ?_;clear hK K I;intro I;try simp only[tz]
        refine tp 13 fun K hK=>?_;have Cp:=Y.cell 0;have Cq:=Y.frozen 0;go_simp;have Aa:=zh (Y.set_ 0 (.int .i64 (lY P M Mq x)));replace D:=zh (D.setCell (p:=(gi:aA)) ξ (.int .i64 (lY P M Mq x)));generalize Gj.setCell gi (.int .i64 (lY P M Mq x))=Hj at*;clear Cp Cq Y;refine hK.out _ _ (⟨cb D τ,cb D φ,cb D χ,cb D ψ,cb D ω⟩) ?_;clear hK K I;intro I;try simp only[tz]
        refine tn 14 fun K hK=>?_;go_simp;refine hK.out _ _ I (fun Bc=>?_);clear hK K;clear Bc;refine tw ?_;try simp only[tz]
        clear I;go_wp2_with fail;go_meet;exact⟨gi,rfl,rfl,ξ,Aa,D⟩
       case way22=>
        go_simp;obtain⟨Hk,gi,r,s,W,E⟩:=aR Gg 3 [.int .i64 0];rw[r,s];have Y:=zh W;have ξ:U.heap.size<=gi:=(by have:=D.size;omega)
        replace D:=zh (aC D E);clear r s W E;refine hK.out _ _ (⟨cb D τ,cb D φ,cb D χ,cb D ψ,cb D ω⟩) ?_;clear hK K I;intro I;try simp only[tz]
        refine tp 8 fun K hK=>?_;go_simp;refine(qJ _ A P M x Mq (Al.below (G.bel.trans (D.mono G.bel.size)) zr) De).mono ?_;rintro e Gh ⟨rfl,E⟩;replace Y:=zh (Y.belowS E);replace D:=zh (aC D E);clear E;refine hK.out _ _ (⟨cb D τ,cb D φ,cb D χ,cb D ψ,cb D ω⟩) ?_;clear hK K I;intro I;try simp only[tz]
        refine tq 9 ?_;refine tq 10 ?_;refine tq 11 ?_;try simp only[tz]
        refine tp 13 fun K hK=>?_;have Cp:=Y.cell 0;have Cq:=Y.frozen 0;go_simp;have Aa:=zh (Y.set_ 0 (.int .i64 (lY P M Mq x)));replace D:=zh (D.setCell (p:=(gi:aA)) ξ (.int .i64 (lY P M Mq x)));generalize Gh.setCell gi (.int .i64 (lY P M Mq x))=Hi at*;clear Cp Cq Y;refine hK.out _ _ (⟨cb D τ,cb D φ,cb D χ,cb D ψ,cb D ω⟩) ?_;clear hK K I;intro I;try simp only[tz]
        refine tn 14 fun K hK=>?_;go_simp;refine hK.out _ _ I (fun Bc=>?_);clear hK K;clear Bc;refine tw ?_;try simp only[tz]
        clear I;go_wp2_with fail;go_meet;exact⟨gi,rfl,rfl,ξ,Aa,D⟩
      case rest=>
       clear Bb Ae da Af Ag;obtain⟨gi,rfl,rfl,ξ,Aa,D⟩:=hcut;have V:=zh (G.name D ξ Aa.lt);have Am:=zh (ζ.belowS D);obtain⟨v,Be⟩:=xE (fun b=>o b\/b=gi:Nat->Prop);rw[<-Be] at V;have Dm:Hid (∀b,b<w0.heap.size->v b):=aG fun b E=>by rw[Be];exact .inl (Cm.out b E)
       have Br:Hid (v ga):=by show v ga;rw[Be];exact .inl Bq.out
       have Fi:Hid (v gi):=by show v gi;rw[Be];exact .inr rfl
       clear Be ξ G ζ τ φ χ ψ ω D Cm Bq Cl;have Ds:lY P M Mq x=O.inv x:=by rw[Cj.out];rfl
       have Bn:=zh Ds;clear Ds;have Ca:Hid (O.inv x=1↔x=1):=ay Bz.out Az.1 Az.2;obtain⟨S,Bh⟩:=xE (dW O c a ls);have Cd:=zh Bh;have Di:Hid (S.length=n):=by show _=_;rw[Bh,oM,η.out]
       have Ey:Hid (Rows q N S):=by rw[Bh];exact Rows.monic Av.out Aw.out c (by rw[η.out];exact f)
       rw[<-Bh] at Ck;clear Bh;have Dr:wc.cell? gi=some (.int .i64 (lY P M Mq x)):=Aa.cell 0;have Db:=zh Dr;have T:wc.cell? b5=some (.slice g n H):=V.k5.cell 0;have Ab:=zh T;have Ac:Hid (wc.cell? b7=some (.slice Q m cy)):=V.k7.cell 0;have Bk:Hid (wc.cell? b4=some (.pointer A)):=V.k4.cell 0;have As:Hid (wc.cell? ga=some (a:aV)):=Am.cell 0
       go_upto_if 92 with(fail)
       go_cut [] from 21 to 122 (fun wc=>Hid (EJ L w0 wc (.slice g n H) (.slice Q m cy) (.slice Aj a Ak) S piv v A b4 b5 b7)/\Hid (Blk wc ga 3 [(a:aV)]))
       case first=>
        by_cases Ar:x=1
        .have Bi:(lY P M Mq x !=1)=false:=by rw[Bn.out,eB];exact Ca.2 Ar
         have Cf:Hid (S=ls):=by show _=_;rw[Cd.out];unfold dW;rw[iN (by rw[An.out];simpa using Ar)]
         clear Ar;go_wp2_with fail;go_meet
         case rel=>exact⟨by rw[Cf.out];exact V,Am⟩
        .have Bi:(lY P M Mq x !=1)=true:=by rw[Bn.out,eC];exact fun e=>Ar (Ca.1 e)
         have Cf:Hid (S=ls.set a (bN (aD P M Mq) (lY P M Mq x) (ls a []))):=by show _=_;rw[Cd.out];unfold dW;rw[iP (by rw[An.out];exact Ar),An.out,Bn.out,Cj.out]
         have Bp:Hid ((((lfM L ls).getD a []).length<=100000/\∀k,I64 (((lfM L ls).getD a []).getD k 0))/\(((rgM L ls).getD a []).length<=100000/\∀k,I64 (((rgM L ls).getD a []).getD k 0))):=by have h:=Aw.out a (by rw[η.out];exact f);exact⟨eh h Dt om,em h Dt om⟩
         clear Ar;go_wp2_with fail;refine(Z7 (X:=v) (B:=w0.heap.size) Ab Ac V.x7 Cy Al V.bel zr V.om (by rw[wH];exact η.out) (by rw[rX];exact η.out) f V.xb Bp.1.1 Bp.1.2 Bp.2.1 Bp.2.2 V.x4 Fi Br Bk Db As V.bel.size).mono ?_;rintro e Em ⟨rfl,Bj,Ai⟩;have Bm:=zh (V.kx (l':=ls.set a (bN (aD P M Mq) (lY P M Mq x) (ls a []))) (by rw[G7,IS,LC,K9,<-yE,<-vL];exact Bj) Ai);have Cc:=zh (Ai.blk Am Br);rw[<-Cf.out] at Bm;clear Bj Ai;go_wp2_with fail;go_meet
         case rel=>exact⟨Bm,Cc⟩
       case rest=>
        clear V Am Aa Dr T Ab Ac Bk As Db An Aw η Cd Ca Bn;obtain⟨C,J⟩:=hcut;have T:wc.cell? b5=some (.slice g n H):=C.k5.cell 0;go_wp2_with fail;clear T;go_loopw [98] (fun x wr=>∃(i:Nat) (X:Nat->Prop),i<=n/\x=(i:aV)/\Hid (∀b,b<w0.heap.size->X b)/\Hid (X ga)/\Hid (EJ L w0 wr (.slice g n H) (.slice Q m cy) (.slice Aj a Ak) (bH O c a S i) piv X A b4 b5 b7)/\Hid (Blk wr ga 3 [(a:aV)])) (fun x _=>(n-intOf x).toNat)
        case atStart=>exact⟨0,v,aZ5 _,rfl,Dm,Br,C,J⟩
        case round=>
         clear C J Dm Br;obtain⟨i,X,hi,rfl,μ,Dn,C,J⟩:=hrel;by_cases Cv:i<n
         .have Ad:Hid ((bH O c a S i).length=n):=by show _=_;rw[kN,Di.out]
          have Bl:=zh (Rows.clear Av Ey c a i (by rw[Di.out];exact hi));have ι:Hid (bH O c a S (i+1)=if i≠a/\((bH O c a S i).getD i []).getD c 0≠0 then(bH O c a S i).set i (cQ O ((bH O c a S i).getD i []) (O.neg (((bH O c a S i).getD i []).getD c 0)) ((bH O c a S i).getD a [])) else bH O c a S i):=rfl;generalize bH O c a S i=t at C Ad Bl ι;have π:=(Bl.out i (by rw[Ad.out];exact Cv)).1;obtain⟨He,Ej,σ,ρ⟩:=C.row (k:=i) (by rw[Ad.out];exact Cv) π om om;have F:=ρ c om;obtain⟨y,Ei⟩:=xE ((t i []).getD c 0);rw[<-Ei] at F ι;clear ρ π Ei;have T:wr.cell? b5=some (.slice g n H):=C.k5.cell 0;have ν:wr.cell? ga=some (a:aV):=J.cell 0;go_upto_region 22 with fail;obtain⟨w2,Ah,r,s,W,E⟩:=aR wr 3 [(i:aV)];rw[r,s];have Da:=zh W;have Dd:=zh (C.name E (gi:=Ah) om W.lt);have Df:=zh (J.belowS E);have Ae:=aE E T;have Af:=aE E σ;have Ag:=aE E F;have Gv:w0.heap.size<=Ah:=by have:=C.bel.size;omega
          have Cr:w2.cell? Ah=some (i:aV):=W.cell 0;clear C J T ν σ F r s W E;go_upto_region 23 with fail;obtain⟨U,gx,r,s,W,E⟩:=aR w2 3 [(y:aV)];rw[r,s];have Y:=zh W;have G:=zh (Dd.name E (gi:=gx) om W.lt);have ζ:=zh (Df.belowS E);have Es:=zh (Da.belowS E);clear Dd Df Da Ae Af Ag Cr r s W E;obtain⟨Z,Ao⟩:=xE (fun b=>(X b\/b=Ah)\/b=gx:Nat->Prop);rw[<-Ao] at G;have Co:Hid (∀b,b<w0.heap.size->Z b):=aG fun b E=>by rw[Ao];exact .inl (.inl (μ.out b E))
          have Ay:Hid (Z ga):=by show Z ga;rw[Ao];exact .inl (.inl Dn)
          have Fj:Hid (Z Ah):=by show Z Ah;rw[Ao];exact .inl (.inr rfl)
          have Fk:Hid (Z gx):=by show Z gx;rw[Ao];exact .inr rfl
          clear Ao μ Dn;have Cr:U.cell? Ah=some (i:aV):=Es.cell 0;have Fp:U.cell? gx=some (y:aV):=Y.cell 0;have ba:U.cell? ga=some (a:aV):=ζ.cell 0;have Ab:Hid (U.cell? b5=some (.slice g n H)):=G.k5.cell 0;have Ac:Hid (U.cell? b7=some (.slice Q m cy)):=G.k7.cell 0;have Bk:Hid (U.cell? b4=some (.pointer A)):=G.k4.cell 0;have Ew:=zh Cr;have Fm:=zh Fp;have Ep:=zh ba;by_cases Bf:i=a
          .subst Bf;have Bi:(((i:Nat):Int) !=(i:Int))=false:=by simp
           rw[iN (fun h=>h.1 rfl)] at ι;go_wp2_with fail;exact⟨⟨i+1,Z,om,pC,Co,Ay,by rw[ι.out];exact G,ζ⟩,oI⟩
          .have Bi:(((i:Nat):Int) !=(a:Int))=true:=by rw[eC];omega
           by_cases Bv:y=0
           .subst Bv;rw[iN (fun h=>h.2 rfl)] at ι;clear Bf;go_wp2_with fail;exact⟨⟨i+1,Z,om,pC,Co,Ay,by rw[ι.out];exact G,ζ⟩,oI⟩
           .have Hc:(y !=0)=true:=by simpa using Bv
            rw[iP ⟨Bf,Bv⟩] at ι;have Ex:=zh Bf;have Dh:Hid ((∀j,j<n->((lfM L t).getD j []).length=L/\∀k,I64 (((lfM L t).getD j []).getD k 0))/\(∀j,j<n->((rgM L t).getD j []).length=N-L/\∀k,I64 (((rgM L t).getD j []).getD k 0))):=aG (by exact⟨fun j Cw=>ez (Bl j (by rw[Ad.out];exact Cw)) om om,fun j Cw=>PM (Bl j (by rw[Ad.out];exact Cw)) om⟩);clear Bf Bv;go_wp2_with fail;refine(Z8 (X:=Z) (B:=w0.heap.size) (L:=L) (L2:=N-L) (P:=P) (M:=M) (Mq:=Mq) Ab Ac G.x7 Cy Al G.bel zr G.om (by rw[wH];exact Ad.out) (by rw[rX];exact Ad.out) Cv f Ex Dh.1 om om Dh.2 (fun h=>by have:=Fv h;omega) om G.x4 Fj Fk Ay Bk Ew Fm Ep G.bel.size).mono ?_;rintro e Em ⟨rfl,Bj,Ai⟩;have Bm:=zh (G.kx (l':=t.set i (cQ (aD P M Mq) (t i []) (iO P M y) (t a []))) (by rw[G7,IS,I7,I6,<-yE,<-vL,<-yE,<-vL];exact Bj) Ai);have Cc:=zh (Ai.blk ζ Ay);have Ez:Hid (bH O c a S (i+1)=t.set i (cQ (aD P M Mq) (t i []) (iO P M y) (t a []))):=by show _=_;rw[ι.out,Cj.out];rfl
            clear Bj Ai;go_wp2_with fail;exact⟨⟨i+1,Z,om,pC,Co,Ay,by rw[Ez.out];exact Bm,Cc⟩,oI⟩
         .obtain rfl:n=i:=om;rw[<-Ck.out] at C;have Fb:Hid (piv.length+[(c:Int)].length<=17592186044416):=by show _<=_;rw[ε.out,aZ2];omega
          have Fa:=zh (C.oi.alloc (.cells #[c] 3));have Ff:Hid (SI (wr.alloc (.cells #[c] 3)) (.slice wr.heap.size 1 1) [(c:Int)]):=SI.lit wr [(c:Int)] sM (fun j=>by
           rcases j with _|j
           .exact I64.of_small (by show _<=(c:Int);omega) (by show(c:Int)<=_;omega)
           .exact I64.zero)
          have Fh:Hid (w0.heap.size<=(wr.alloc (.cells #[c] 3)).heap.size):=jZ C.bel.size _;go_wp2_with (at_builtin;go_must (refine kT rfl _ _ rfl w0.heap.size _ piv rfl Fa _ [(c:Int)] rfl Ff Fb Fh ?_);(intro Hg Em Bs Aq Eh);have Eu:=zh (C.push Bs Aq Eh);clear Bs Aq Eh)
          exact⟨⟨c+1,_,_,_,Gk,om,pC,rfl,Ci.out,aG (fun b E=>.inl (μ.out b E)),Eu⟩,oI⟩
   .obtain rfl:n=k:=om;have Bo:Hid (gG l c l.length (l.length-piv.length) piv.length=n):=by show _=_;rw[R.out,ε.out,Cb.out,Nat.sub_self,gG]
    have Ed:(((n:Nat):Int)==(n:Int))=true:=by simp
    have Ci:Hid (aJ O rows (c+1)=(l,piv)):=by show _=_;rw[pA At.out (by rw[R.out,ε.out];exact f) Bo.out,iP R.out.symm]
    go_wp2_with fail;exact⟨⟨c+1,l,piv,o,z,om,pC,rfl,Ci,Cm,C⟩,oI⟩
theorem SG (w0 w : Wo) (A : Nat) (P M : Int) (B L N n g C gy cy : Nat) (Mq : LI) (rows : LL) (F : GF w0 A P M Mq) (H : kW w0 (fun g => g < w0.heap.size) w (.slice (some ⟨g, 0, none⟩) n C) (lfM L rows) (.slice (some ⟨gy, 0, none⟩) n cy) (rgM L rows))
 (hn:rows=n)(Q:0<n)(D:Below w0 w0 w)(hR:Rows (aF P M) N rows)(I:B<=L)(E:L<N)(G:N<=100000)(K:n<=100000):
 Calls prog 161 #[.pointer A,.slice g n C,B,.slice gy n cy] w
  (kg L w0 (.slice g n C) (.slice gy n cy) (aJ (aD P M Mq) rows B).1 (aJ (aD P M Mq) rows B).2):=
 (O7 w0 w A P M B L N n g C n cy _ Mq rows F (.inr H) hn Q D hR I (Nat.le_of_lt E) (fun _=>E) G K).mono fun e w'⟨u,d,J,O,hi,D⟩=>⟨u,d,J,O.resolve_left (fun h=>by cases h.1),hi,D⟩
theorem KD{q:Int}{L:Nat}{rows:LL}(h:Rows q L rows):lfM L rows=rows:=by unfold lfM;refine(List.map_congr_left (g:=id) fun x A=>?_).trans (List.map_id rows);obtain⟨i,hi,rfl⟩:=List.getElem_of_mem A;have:=(h i hi).1;rw[aZ4,aZ3 hi] at this;exact List.take_of_length_le (Nat.le_of_eq this)
theorem M6 (w0 w : Wo) (A : Nat) (P M : Int) (B L n g C : Nat) (Mq : LI) (rows : LL) (E : GF w0 A P M Mq) (G : OM w0 (fun g => g < w0.heap.size) w (.slice (some ⟨g, 0, none⟩) n C) rows)
 (hn:rows=n)(N:0<n)(D:Below w0 w0 w)(hR:Rows (aF P M) L rows)(H:B<=L)(F:L<=100000)(J:n<=100000):
 Calls prog 161 #[.pointer A,.slice g n C,B,()] w
  (UT w0 (.slice g n C) (aJ (aD P M Mq) rows B).1 (aJ (aD P M Mq) rows B).2):=by
 refine(O7 w0 w A P M B L L n g C 0 0 none Mq rows E (.inl ⟨rfl,by rw[KD hR];exact G⟩) hn N D hR H zr (fun h=>aB rfl h) F J).mono fun e w'⟨u,d,I,K,hi,D⟩=>⟨u,d,I,?_,hi,D⟩
 have:=K.om;rwa[KD (qG (iJ E.fld.1 Mq) hR B (l:=(aJ (aD P M Mq) rows B).1) (piv:=(aJ (aD P M Mq) rows B).2) rfl).1] at this
