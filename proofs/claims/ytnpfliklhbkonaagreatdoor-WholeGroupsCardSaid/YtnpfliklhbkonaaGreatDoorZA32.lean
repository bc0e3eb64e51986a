/- Parts. -/
import Derived.Test.YtnpfliklhbkonaaGreatDoorZA23
import Derived.Test.YtnpfliklhbkonaaGreatDoorZA31
set_option maxRecDepth 99999
set_option maxHeartbeats 0
namespace Go.Proofs.YtnpfliklhbkonaaGreatDoor
open Go.Proofs.Tryz
open Go.RowKit
theorem pR(w:Wo)(t:TypeId)(cs ds:List Va):∃w',(w.alloc (.cells cs.toArray t)).alloc (.cells ds.toArray t)=w'/\Blk w' w t cs/\Blk w' (w.heap.size+1) t ds/\Below w w w':=by obtain⟨w',A,B,C,D,_⟩:=iz w t cs ds;exact⟨w',A,B,C,D⟩
theorem K3(w:Wo)(P M:Int)(V W:Va)(Mq:LI)(O:SI w V Mq)(Q:SI w W Mq):
 Calls prog 30 #[.agg #[P,M,V],.agg #[P,M,W]] w (nX w true):=by
 have D:=zh O;have I:=zh Q;obtain⟨X,h,rfl,_⟩:=O;obtain⟨Y,j,rfl,_⟩:=Q;obtain⟨l,H⟩:=xE Mq.length;rw[<-H] at D I|-;have F:=zh H;clear H;have r:l<=17592186044416:=F.out▸D.len';obtain⟨w1,N,T,U,R⟩:=pR w 24 [(P:aV),(M:aV),.slice X l h] [(P:aV),(M:aV),.slice Y l j];have J:=zh N;have B:=zh T;have C:=zh U;have Z:=zh R;clear N T U R;have n:(P !=P)=false:=by simp
 have m:(M !=M)=false:=by simp
 have q:((l:Int) !=(l:Int))=false:=by simp
 go_enter func30,ntmps30;go_upto_region 1 with fail;rw[J.out];clear J;have d:=B.cell 0;have e:=B.cell 1;have G:=B.cell 2;have f:=C.cell 0;have g:=C.cell 1;have L:=C.cell 2;go_wp2_with fail;clear d e G f g L;go_loopw [5] (fun i wr=>∃k:Nat,k<=l/\i=(k:aV)/\Hid (Below w1 w1 wr)) (fun i _=>l-(intOf i).toNat)
 .exact⟨0,aZ5 _,rfl,bE _⟩
 .
  obtain⟨k,hk,rfl,A⟩:=hrel;have K:=zh (B.belowS A);have c:=zh (C.belowS A);have E:=zh (aC Z A);by_cases S:k<l
  .obtain⟨x1,y,rfl,o,_,a⟩:=(D.below E zr).elt (k:=k) (F.out▸S);obtain⟨x2,z,rfl,p,_,b⟩:=(I.below E zr).elt (k:=k) (F.out▸S);obtain rfl:y=z:=by rw[<-a.out,<-b.out]
   have s:(y !=y)=false:=by simp
   have G:=K.cell 2;have L:=c.cell 2;go_wp2_with fail
   go_quiet (fail)
   go_wp2;exact⟨⟨k+1,om,pC,aC A (aY _ _)⟩,oI⟩
  .obtain rfl:l=k:=om;have G:=K.cell 2;go_wp2;go_ret;exact⟨rfl,E.out⟩
def pL(P M:Int)(Mq:LI)(C A:Int)(B:LI):Bool:=decide (P=C/\M=A/\Mq=B)
theorem jv(w:Wo)(P M E D:Int)(ζ η:Va)(Mq A:LI)(S:SI w ζ Mq)(U:SI w η A):
 Calls prog 30 #[.agg #[P,M,ζ],.agg #[E,D,η]] w (nX w (pL P M Mq E D A)):=by
 have p:=zh S;have q:=zh U;have ξ:=S.len';have π:=U.len';obtain⟨V,d,rfl,_⟩:=S;obtain⟨W,f,rfl,_⟩:=U;by_cases L:P=E
 case neg=>
  have K:Hid (pL P M Mq E D A=false):=aG (dG fun h=>L h.1);have ν:(P !=E)=true:=by rw[eC];exact L
  clear L;obtain⟨w1,G,I,J,H⟩:=pR w 24 [(P:aV),(M:aV),.slice V Mq d] [(E:aV),(D:aV),.slice W A f];have F:=zh G;have B:=zh I;have C:=zh J;have O:=zh H;clear G I J H;generalize Mq=l at*;generalize A=ε at*;go_enter func30,ntmps30;go_upto_region 1 with fail;rw[F.out];clear F;have Z:=B.cell 0;have a:=B.cell 1;have R:=B.cell 2;have b:=C.cell 0;have c:=C.cell 1;have T:=C.cell 2;go_wp2_with fail;go_ret;exact⟨by rw[K.out];rfl,O.out⟩
 have ν:(P !=E)=false:=by rw[eB];exact L
 by_cases Q:M=D
 case neg=>
  have K:Hid (pL P M Mq E D A=false):=aG (dG fun h=>Q h.2.1);have μ:(M !=D)=true:=by rw[eC];exact Q
  clear L Q;obtain⟨w1,G,I,J,H⟩:=pR w 24 [(P:aV),(M:aV),.slice V Mq d] [(E:aV),(D:aV),.slice W A f];have F:=zh G;have B:=zh I;have C:=zh J;have O:=zh H;clear G I J H;generalize Mq=l at*;generalize A=ε at*;go_enter func30,ntmps30;go_upto_region 1 with fail;rw[F.out];clear F;have Z:=B.cell 0;have a:=B.cell 1;have R:=B.cell 2;have b:=C.cell 0;have c:=C.cell 1;have T:=C.cell 2;go_wp2_with fail;go_ret;exact⟨by rw[K.out];rfl,O.out⟩
 have μ:(M !=D)=false:=by rw[eB];exact Q
 by_cases m:Mq.length=A.length
 case neg=>
  have K:Hid (pL P M Mq E D A=false):=aG (dG fun h=>m (by rw[h.2.2]));have ρ:(((Mq.length:Nat):Int) !=(A.length:Int))=true:=by rw[eC];omega
  clear L Q m;obtain⟨w1,G,I,J,H⟩:=pR w 24 [(P:aV),(M:aV),.slice V Mq d] [(E:aV),(D:aV),.slice W A f];have F:=zh G;have B:=zh I;have C:=zh J;have O:=zh H;clear G I J H;generalize Mq=l at*;generalize A=ε at*;go_enter func30,ntmps30;go_upto_region 1 with fail;rw[F.out];clear F;have Z:=B.cell 0;have a:=B.cell 1;have R:=B.cell 2;have b:=C.cell 0;have c:=C.cell 1;have T:=C.cell 2;go_wp2_with fail;go_ret;exact⟨by rw[K.out];rfl,O.out⟩
 have θ:Hid (pL P M Mq E D A=decide (Mq=A)):=aG (by unfold pL;simp[L,Q]);rw[θ.out];obtain⟨l,n⟩:=xE Mq.length;have o:l=A:=om;rw[<-n] at p ξ|-;rw[<-o] at q|-;have g:=zh n;have s:=zh o;clear n o m π L Q;have ρ:((l:Int) !=(l:Int))=false:=by simp
 obtain⟨w1,G,I,J,H⟩:=pR w 24 [(P:aV),(M:aV),.slice V l d] [(E:aV),(D:aV),.slice W l f];have F:=zh G;have B:=zh I;have C:=zh J;have O:=zh H;clear G I J H;go_enter func30,ntmps30;go_upto_region 1 with fail;rw[F.out];clear F;have Z:=B.cell 0;have a:=B.cell 1;have R:=B.cell 2;have b:=C.cell 0;have c:=C.cell 1;have T:=C.cell 2;go_wp2_with fail;clear Z a R b c T;go_loopw [5] (fun i wr=>∃k:Nat,k<=l/\i=(k:aV)/\Hid (∀j,j<k->Mq j 0=A j 0)/\Hid (Below w1 w1 wr)) (fun i _=>l-(intOf i).toNat)
 case atStart=>exact⟨0,aZ5 _,rfl,aG fun j x=>aB x om,bE _⟩
 case round=>
  obtain⟨k,hk,rfl,r,Y⟩:=hrel;have v:=zh (B.belowS Y);have κ:=zh (C.belowS Y);have X:=zh (aC O Y);by_cases δ:k<l
  .obtain⟨x1,y,rfl,φ,_,t⟩:=(p.below X zr).elt (k:=k) (g.out▸δ);obtain⟨x2,z,rfl,χ,_,u⟩:=(q.below X zr).elt (k:=k) (s.out▸δ);have R:=v.cell 2;have T:=κ.cell 2;by_cases N:y=z
   .have σ:(y !=z)=false:=by simp[N]
    have τ:(z !=y)=false:=by simp[N]
    have ι:=zh N;clear N;go_wp2_with fail
    go_quiet (fail)
    go_wp2_with fail;exact⟨⟨k+1,om,pC,aG fun j x=>by
     by_cases e:j=k
     .subst e;rw[t.out,u.out];exact ι.out
     .exact r.out j om,aC Y.out (aY _ _)⟩,oI⟩
   .have σ:(y !=z)=true:=by simp[N]
    have τ:(z !=y)=true:=by rw[eC];exact fun h=>N h.symm
    have K:Hid (decide (Mq=A)=false):=aG (dG fun h=>N (by rw[<-t.out,<-u.out,h]));clear N;go_wp2_with fail
    go_quiet (fail)
    go_wp2_with fail;go_ret;exact⟨by rw[K.out];rfl,aC X (aY _ _)⟩
  .obtain rfl:l=k:=om;have K:Hid (decide (Mq=A)=true):=by show _=_;refine dE (eK (by rw[<-g.out,<-s.out]) fun i S U=>?_);have:=r.out i (g.out▸S);simp[List.getD,S,U] at this;exact this
   have R:=v.cell 2;go_wp2_with fail;go_ret;exact⟨by rw[K.out];rfl,X.out⟩
theorem RN(w:Wo)(P M E D:Int)(ζ η:Va)(Mq A:LI)(S:SI w ζ Mq)(U:SI w η A):
 Calls prog 146 #[.agg #[P,M,ζ],.agg #[E,D,η]] w (nX w (pL P M Mq E D A)):=by
 have p:=zh S;have q:=zh U;have ξ:=S.len';have π:=U.len';obtain⟨V,d,rfl,_⟩:=S;obtain⟨W,f,rfl,_⟩:=U;by_cases L:P=E
 case neg=>
  have K:Hid (pL P M Mq E D A=false):=aG (dG fun h=>L h.1);have ν:(P !=E)=true:=by rw[eC];exact L
  clear L;obtain⟨w1,G,I,J,H⟩:=pR w 24 [(P:aV),(M:aV),.slice V Mq d] [(E:aV),(D:aV),.slice W A f];have F:=zh G;have B:=zh I;have C:=zh J;have O:=zh H;clear G I J H;generalize Mq=l at*;generalize A=ε at*;go_enter func146,ntmps146;go_upto_region 1 with fail;rw[F.out];clear F;have Z:=B.cell 0;have a:=B.cell 1;have R:=B.cell 2;have b:=C.cell 0;have c:=C.cell 1;have T:=C.cell 2;go_wp2_with fail;go_ret;exact⟨by rw[K.out];rfl,O.out⟩
 have ν:(P !=E)=false:=by rw[eB];exact L
 by_cases Q:M=D
 case neg=>
  have K:Hid (pL P M Mq E D A=false):=aG (dG fun h=>Q h.2.1);have μ:(M !=D)=true:=by rw[eC];exact Q
  clear L Q;obtain⟨w1,G,I,J,H⟩:=pR w 24 [(P:aV),(M:aV),.slice V Mq d] [(E:aV),(D:aV),.slice W A f];have F:=zh G;have B:=zh I;have C:=zh J;have O:=zh H;clear G I J H;generalize Mq=l at*;generalize A=ε at*;go_enter func146,ntmps146;go_upto_region 1 with fail;rw[F.out];clear F;have Z:=B.cell 0;have a:=B.cell 1;have R:=B.cell 2;have b:=C.cell 0;have c:=C.cell 1;have T:=C.cell 2;go_wp2_with fail;go_ret;exact⟨by rw[K.out];rfl,O.out⟩
 have μ:(M !=D)=false:=by rw[eB];exact Q
 by_cases m:Mq.length=A.length
 case neg=>
  have K:Hid (pL P M Mq E D A=false):=aG (dG fun h=>m (by rw[h.2.2]));have ρ:(((Mq.length:Nat):Int) !=(A.length:Int))=true:=by rw[eC];omega
  clear L Q m;obtain⟨w1,G,I,J,H⟩:=pR w 24 [(P:aV),(M:aV),.slice V Mq d] [(E:aV),(D:aV),.slice W A f];have F:=zh G;have B:=zh I;have C:=zh J;have O:=zh H;clear G I J H;generalize Mq=l at*;generalize A=ε at*;go_enter func146,ntmps146;go_upto_region 1 with fail;rw[F.out];clear F;have Z:=B.cell 0;have a:=B.cell 1;have R:=B.cell 2;have b:=C.cell 0;have c:=C.cell 1;have T:=C.cell 2;go_wp2_with fail;go_ret;exact⟨by rw[K.out];rfl,O.out⟩
 have θ:Hid (pL P M Mq E D A=decide (Mq=A)):=aG (by unfold pL;simp[L,Q]);rw[θ.out];obtain⟨l,n⟩:=xE Mq.length;have o:l=A:=om;rw[<-n] at p ξ|-;rw[<-o] at q|-;have g:=zh n;have s:=zh o;clear n o m π L Q;have ρ:((l:Int) !=(l:Int))=false:=by simp
 obtain⟨w1,G,I,J,H⟩:=pR w 24 [(P:aV),(M:aV),.slice V l d] [(E:aV),(D:aV),.slice W l f];have F:=zh G;have B:=zh I;have C:=zh J;have O:=zh H;clear G I J H;go_enter func146,ntmps146;go_upto_region 1 with fail;rw[F.out];clear F;have Z:=B.cell 0;have a:=B.cell 1;have R:=B.cell 2;have b:=C.cell 0;have c:=C.cell 1;have T:=C.cell 2;go_wp2_with fail;clear Z a R b c T;go_loopw [5,6,31] (fun _ _ i wr=>∃k:Nat,k<=l/\i=(k:aV)/\Hid (∀j,j<k->Mq j 0=A j 0)/\Hid (Below w1 w1 wr)) (fun _ _ i _=>l-(intOf i).toNat)
 case atStart=>exact⟨0,aZ5 _,rfl,aG fun j x=>aB x om,bE _⟩
 case round=>
  obtain⟨k,hk,rfl,r,Y⟩:=hrel;have v:=zh (B.belowS Y);have κ:=zh (C.belowS Y);have X:=zh (aC O Y);by_cases δ:k<l
  .obtain⟨x1,y,rfl,φ,_,t⟩:=(p.below X zr).elt (k:=k) (g.out▸δ);obtain⟨x2,z,rfl,χ,_,u⟩:=(q.below X zr).elt (k:=k) (s.out▸δ);have R:=v.cell 2;have T:=κ.cell 2;by_cases N:y=z
   .have σ:(y !=z)=false:=by simp[N]
    have τ:(z !=y)=false:=by simp[N]
    have ι:=zh N;clear N;go_wp2_with fail;exact⟨⟨k+1,om,pC,aG fun j x=>by
     by_cases e:j=k
     .subst e;rw[t.out,u.out];exact ι.out
     .exact r.out j om,Y.out⟩,oI⟩
   .have σ:(y !=z)=true:=by simp[N]
    have τ:(z !=y)=true:=by rw[eC];exact fun h=>N h.symm
    have K:Hid (decide (Mq=A)=false):=aG (dG fun h=>N (by rw[<-t.out,<-u.out,h]));clear N;go_wp2_with fail;go_ret;exact⟨by rw[K.out];rfl,X.out⟩
  .obtain rfl:l=k:=om;have K:Hid (decide (Mq=A)=true):=by show _=_;refine dE (eK (by rw[<-g.out,<-s.out]) fun i S U=>?_);have:=r.out i (g.out▸S);simp[List.getD,S,U] at this;exact this
   have R:=v.cell 2;go_wp2_with fail;go_ret;exact⟨by rw[K.out];rfl,X.out⟩
structure FCQ(w w1:Wo)(P M:Int)(mv:Va):Prop where
 fb:dM w w1 P M mv
 q:Blk w1 (w.heap.size+1) 27 [.int .i64 0,.int .i64 0,.slice none 0 0,.int .i64 0,.slice none 0 0]
theorem FCQ.on{w w1 w2:Wo}{P M:Int}{mv:Va}(h:FCQ w w1 P M mv)(A:Below w1 w1 w2):FCQ w w2 P M mv:=⟨h.fb.on A,h.q.belowS A⟩
theorem FCQ.mk'(w:Wo)(P M:Int)(mv:Va):∃w1,(w.alloc (.cells #[P,M,mv] 24)).alloc (.cells #[z0,z0,(),z0,()] 27)=w1/\FCQ w w1 P M mv:=by refine⟨_,rfl,(dM.mk' w P M mv).on (aH _ _),?_⟩;have:=Blk.new (w.alloc (.cells #[P,M,mv] 24)) 27 [.int .i64 0,.int .i64 0,.slice none 0 0,.int .i64 0,.slice none 0 0];rw[World.size_alloc] at this;exact this
theorem me(w:Wo)(P M n D:Int)(mv:Va)(S:D≠0)(hR:∀w',Below w w w'->Calls prog 178 #[.agg #[P,M,mv],n] w' (iV w' 0 0 [] 0 [] D)):
 Calls prog 179 #[.agg #[P,M,mv],n] w (iV w 0 0 [] 0 [] D):=by
 have m:(D !=0)=true:=by rw[eC];exact S
 obtain⟨w1,C,hq⟩:=FCQ.mk' w P M mv;have B:=zh hq;have F:=zh C;clear hq C;go_enter func179,ntmps179;go_upto_region 1 with fail;rw[F.out];clear F;have c0:=B.fb.c0;have c1:=B.fb.c1;have c2:=B.fb.c2;go_wp2_with fail;apply(hR w1 B.fb.bel).mono;rintro e w2⟨o,l,rfl,J,H⟩;have L:=zh (B.on H);obtain⟨⟨N,T,rfl,_⟩,⟨K,O,rfl,_⟩⟩:=J.out;clear c0 c1 c2;clear J H;go_upto_region 2 with fail;obtain⟨p,g,C,G,R,I⟩:=aR w2 27 [.int .i64 0,.int .i64 0,.slice N 0 T,.int .i64 0,.slice K 0 O];rw[C,G];have E:=zh (L.on I);clear C G R I;obtain⟨Z,a,b,c,d,f,h,i,j,k⟩:=E.q.five;go_wp2_with fail;obtain⟨w9,Q,A⟩:=zL (x:=.int .i64 0) (y:=.int .i64 0) (z:=.slice none 0 0) (u:=.int .i64 0) (v:=.slice none 0 0) E.q;rw[Q];have U:=A.c0;have V:=A.c1;have W:=A.c2;have X:=A.c3;have Y:=A.c4;refine bodyPost_ret (v:=.tuple #[.agg #[z0,z0,(),z0,()],D]) (by simp[results,results179,go_sem,U,V,W,X,Y]) rfl ?_;exact⟨_,_,rfl,(SI.nilSep _ _).and (SS.nilSep _ _),A.below E.fb.bel E.fb.bel.size om⟩
theorem mf(w:Wo)(P M n:Int)(N:Nat)(mv:Va)(Mq:LI)(C D:LL)(hR:∀w',Below w.heap.size w w'->Calls prog 178 #[.agg #[P,M,mv],n] w' (iV w' P M Mq N C 0))
 (d:∀(w':Wo) (j V:Va),SI w' j Mq->SS w' V C->Calls prog 212 #[.agg #[P,M,j,N,V]] w' (iV w' P M Mq N D 0)):
 Calls prog 179 #[.agg #[P,M,mv],n] w (iV w P M Mq N D 0):=by
 have k:=zh d;clear d;obtain⟨w1,G,hq⟩:=FCQ.mk' w P M mv;have F:=zh hq;have X:=zh G;clear hq G;go_enter func179,ntmps179;go_upto_region 1 with fail;rw[X.out];clear X;have c0:=F.fb.c0;have c1:=F.fb.c1;have c2:=F.fb.c2;go_wp2_with fail;refine(hR w1 F.fb.bel).mono ?_;rintro e w2 ⟨V,τ,rfl,S,f⟩;have l:=zh (F.on f);obtain⟨⟨L,U,rfl,_⟩,⟨J,Q,rfl,_⟩⟩:=S.out;clear c0 c1 c2;have m:Hid (Sep w1.heap.size w2 fun w9=>SI w9 (.slice L Mq.length U) Mq/\SS w9 (.slice J C.length Q) C):=aG S;clear S f;generalize hml:Mq.length=ml at*;generalize hcl:C.length=Z at*;clear hml hcl;go_upto_region 2 with fail;obtain⟨B,g,G,c,E,R⟩:=aR w2 27 [(P:aV),(M:aV),.slice L ml U,(N:aV),.slice J Z Q];rw[G,c];have Y:=zh (m.on R).out;have K:=zh (l.on R);have c0:B.cell? g=some (P:aV):=E.cell 0;have c1:B.cell? (g 1 none)=some (M:aV):=E.cell 1;have c2:B.cell? (g 2 none)=some (.slice L ml U):=E.cell 2;have c3:B.cell? (g 3 none)=some (N:aV):=E.cell 3;have c4:B.cell? (g 4 none)=some (.slice J Z Q):=E.cell 4;clear G c E R;go_wp2_with fail;refine(k B _ _ Y.1 Y.2).mono ?_;rintro e ζ ⟨χ,g5,rfl,T,h⟩;obtain⟨⟨O,W,rfl,_⟩,⟨I,dc,rfl,_⟩⟩:=T.out;have o:Hid (Sep B.heap.size ζ fun w9=>SI w9 (.slice O Mq.length W) Mq/\SS w9 (.slice I D.length dc) D):=aG T;have H:=zh (K.on h);clear T h c0 c1 c2 c3 c4;generalize D.length=a at*;generalize Mq.length=i at*;obtain⟨η,θ,ι,κ,μ,ν,ξ,π,ρ,σ⟩:=H.q.five;go_wp2_with fail;obtain⟨w9,p,A⟩:=zL (x:=(P:aV)) (y:=(M:aV)) (z:=.slice O i W) (u:=(N:aV)) (v:=.slice I a dc) H.q;rw[p];have r:=A.c0;have s:=A.c1;have t:=A.c2;have δ:=A.c3;have ε:=A.c4;have φ:=K.q.lt;refine bodyPost_ret (v:=.tuple #[.agg #[P,M,.slice O i W,N,.slice I a dc],.int .i64 0]) (by simp[results,results179,go_sem,r,s,t,δ,ε]) rfl ?_;exact⟨_,_,rfl,(o.grown A.gr (by rintro b e;cases e;omega)).mono K.fb.bel.size,A.below H.fb.bel H.fb.bel.size om⟩
theorem ZZ(w:Wo)(P M n:Int)(N:Nat)(mv:Va)(Mq:LI)(C D:LL)(hR:∀w',Below w.heap.size w w'->Calls prog 183 #[.agg #[P,M,mv],n] w' (iV w' P M Mq N C 0))
 (d:∀(w':Wo) (j V:Va),SI w' j Mq->SS w' V C->Calls prog 212 #[.agg #[P,M,j,N,V]] w' (iV w' P M Mq N D 0)):
 Calls prog 181 #[.agg #[P,M,mv],n] w (iV w P M Mq N D 0):=by
 have k:=zh d;clear d;obtain⟨w1,G,hq⟩:=FCQ.mk' w P M mv;have F:=zh hq;have X:=zh G;clear hq G;go_enter func181,ntmps181;go_upto_region 1 with fail;rw[X.out];clear X;have c0:=F.fb.c0;have c1:=F.fb.c1;have c2:=F.fb.c2;go_wp2_with fail;refine(hR w1 F.fb.bel).mono ?_;rintro e w2 ⟨V,τ,rfl,S,f⟩;have l:=zh (F.on f);obtain⟨⟨L,U,rfl,_⟩,⟨J,Q,rfl,_⟩⟩:=S.out;clear c0 c1 c2;have m:Hid (Sep w1.heap.size w2 fun w9=>SI w9 (.slice L Mq.length U) Mq/\SS w9 (.slice J C.length Q) C):=aG S;clear S f;generalize hml:Mq.length=ml at*;generalize hcl:C.length=Z at*;clear hml hcl;go_upto_region 2 with fail;obtain⟨B,g,G,c,E,R⟩:=aR w2 27 [(P:aV),(M:aV),.slice L ml U,(N:aV),.slice J Z Q];rw[G,c];have Y:=zh (m.on R).out;have K:=zh (l.on R);have c0:B.cell? g=some (P:aV):=E.cell 0;have c1:B.cell? (g 1 none)=some (M:aV):=E.cell 1;have c2:B.cell? (g 2 none)=some (.slice L ml U):=E.cell 2;have c3:B.cell? (g 3 none)=some (N:aV):=E.cell 3;have c4:B.cell? (g 4 none)=some (.slice J Z Q):=E.cell 4;clear G c E R;go_wp2_with fail;refine(k B _ _ Y.1 Y.2).mono ?_;rintro e ζ ⟨χ,g5,rfl,T,h⟩;obtain⟨⟨O,W,rfl,_⟩,⟨I,dc,rfl,_⟩⟩:=T.out;have o:Hid (Sep B.heap.size ζ fun w9=>SI w9 (.slice O Mq.length W) Mq/\SS w9 (.slice I D.length dc) D):=aG T;have H:=zh (K.on h);clear T h c0 c1 c2 c3 c4;generalize D.length=a at*;generalize Mq.length=i at*;obtain⟨η,θ,ι,κ,μ,ν,ξ,π,ρ,σ⟩:=H.q.five;go_wp2_with fail;obtain⟨w9,p,A⟩:=zL (x:=(P:aV)) (y:=(M:aV)) (z:=.slice O i W) (u:=(N:aV)) (v:=.slice I a dc) H.q;rw[p];have r:=A.c0;have s:=A.c1;have t:=A.c2;have δ:=A.c3;have ε:=A.c4;have φ:=K.q.lt;refine bodyPost_ret (v:=.tuple #[.agg #[P,M,.slice O i W,N,.slice I a dc],.int .i64 0]) (by simp[results,results181,go_sem,r,s,t,δ,ε]) rfl ?_;exact⟨_,_,rfl,(o.grown A.gr (by rintro b e;cases e;omega)).mono K.fb.bel.size,A.below H.fb.bel H.fb.bel.size om⟩
theorem F0(w:Wo):Calls prog 49 #[.int .i64 2,.int .i64 1] w (fun e w'=>e=.returned (.int .i64 2)/\w=w'):=by
 go_enter func49,ntmps49;go_wp2;go_loopw [5,21] (fun a i wr=>wr=w/\(i=.int .i64 0/\a=.int .i64 1\/i=.int .i64 1/\a=.int .i64 2)) (fun _ i _=>2-(intOf i).toNat)
 .exact⟨rfl,.inl ⟨rfl,rfl⟩⟩
 .
  obtain⟨rfl,(⟨rfl,rfl⟩|⟨rfl,rfl⟩)⟩:=hrel
  .go_wp2;exact⟨⟨trivial,.inr ⟨rfl,rfl⟩⟩,dC⟩
  .go_wp2;go_ret;exact⟨rfl,rfl⟩
theorem IW(w:Wo):Calls prog 122 #[.int .i64 2] w (fun e w'=>e=.returned (.tuple #[.agg #[.int .i64 2,.int .i64 1,()],z0])/\Below w w w'):=by
 have A:=zh (Blk.new w 24 [.int .i64 0,.int .i64 0,.slice none 0 0]);have C:=zh (aH w (.cells #[z0,z0,()] 24));go_enter func122,ntmps122;go_upto_region 1 with fail;generalize w.alloc (.cells #[z0,z0,()] 24)=w0 at*;go_wp2;go_loopw [4] (fun i wr=>i=.int .i64 2/\w0=wr) (fun _ _=>0)
 .exact⟨rfl,rfl⟩
 .
  obtain⟨rfl,rfl⟩:=hrel;go_wp2;go_loopw [5] (fun i wr=>i=.int .i64 1/\w0=wr) (fun _ _=>0)
  .exact⟨rfl,rfl⟩
  .obtain⟨rfl,rfl⟩:=hrel;go_wp2_with fail;apply(F0 _).mono;rintro e w1⟨rfl,rfl⟩;go_wp2_with fail;apply(F0 _).mono;rintro e w1⟨rfl,rfl⟩;have c0:=A.cell 0;have c1:=A.cell 1;have c2:=A.cell 2;have H:=A.frozen 0;have I:=A.frozen 1;have J:=A.frozen 2;simp only[eE,eF] at c0 c1 c2;go_wp2_with fail;obtain⟨w9,D,B⟩:=vB (x:=.int .i64 2) (y:=.int .i64 1) (z:=.slice none 0 0) A.out;rw[D];have E:=B.c0;have F:=B.c1;have G:=B.c2;refine bodyPost_ret (v:=.tuple #[.agg #[.int .i64 2,.int .i64 1,()],z0]) (by simp[results,results122,go_sem,E,F,G]) rfl ?_;exact⟨rfl,B.below C C.size zr⟩
theorem RG.elt0{s:Nat}{w:Wo}{l:List (List Va)}{A:OA}{n c:Nat}(h:RG s w (.slice A n c) l)(hk:0<l.length):∃B,A=some B/\
 (∀u,(l 0 [])[0]?=some u->w.cell? B=some u)/\(∀j u,(l 0 [])[j+1]?=some u->w.cell? ⟨B.block,B.off+(j+1),none⟩=some u)/\B.add 0=B:=by
 obtain⟨B,e,D,E⟩:=h.elt hk;have C:B.add (0*s)=B:=by rw[Nat.zero_mul];simp[Addr.add]
 rw[C] at D E;exact⟨B,e,D,E,by rwa[Nat.zero_mul] at C⟩
theorem AP{w:Wo}{g:Nat}{t:TypeId}{A B C D E F G H I J x0 x1 x2 x3 x4 x5 x6 x7 x8 x9:Va}(h:Blk w g t [A,B,C,D,E,F,G,H,I,J]):∃w',(((((((((w.setCell g x0).setCell (g 1 none) x1).setCell (g 2 none) x2).setCell (g 3 none) x3).setCell (g 4 none) x4).setCell (g 5 none) x5).setCell (g 6 none) x6).setCell (g 7 none) x7).setCell (g 8 none) x8).setCell (g 9 none) x9=w'/\oW w w' g t [x0,x1,x2,x3,x4,x5,x6,x7,x8,x9]:=
 ⟨_,rfl,((((((((((h.set_ 0 x0).set_ 1 x1).set_ 2 x2).set_ 3 x3).set_ 4 x4).set_ 5 x5).set_ 6 x6).set_ 7 x7).set_ 8 x8).set_ 9 x9),(aS (p:=(g 9 none)) (aS (p:=(g 8 none)) (aS (p:=(g 7 none)) (aS (p:=(g 6 none)) (aS (p:=(g 5 none)) (aS (p:=(g 4 none)) (aS (p:=(g 3 none)) (aS (p:=(g 2 none)) (lF w g 0 1 x0 x1) (.inl rfl) _) (.inl rfl) _) (.inl rfl) _) (.inl rfl) _) (.inl rfl) _) (.inl rfl) _) (.inl rfl) _) (.inl rfl) _)⟩
theorem Blk.ten{w:Wo}{g:Nat}{t:TypeId}{A B C D E F G H I J:Va}(h:Blk w g t [A,B,C,D,E,F,G,H,I,J]):
 w.cell? g=some A/\w.cell? (g 1 none)=some B/\w.cell? (g 2 none)=some C/\w.cell? (g 3 none)=some D/\w.cell? (g 4 none)=some E/\w.cell? (g 5 none)=some F/\w.cell? (g 6 none)=some G/\w.cell? (g 7 none)=some H/\w.cell? (g 8 none)=some I/\w.cell? (g 9 none)=some J/\
 w.frozen? g=false/\w.frozen? (g 1 none)=false/\w.frozen? (g 2 none)=false/\w.frozen? (g 3 none)=false/\w.frozen? (g 4 none)=false/\w.frozen? (g 5 none)=false/\w.frozen? (g 6 none)=false/\w.frozen? (g 7 none)=false/\w.frozen? (g 8 none)=false/\w.frozen? (g 9 none)=false:=
 ⟨h.cell 0,h.cell 1,h.cell 2,h.cell 3,h.cell 4,h.cell 5,h.cell 6,h.cell 7,h.cell 8,h.cell 9,h.frozen 0,h.frozen 1,h.frozen 2,h.frozen 3,h.frozen 4,h.frozen 5,h.frozen 6,h.frozen 7,h.frozen 8,h.frozen 9⟩
def yW(p m:Int)(u:Va)(D B:Int)(E:Va)(C:Int)(A:Va)(n:Int)(l:Va):List Va:=[(p:aV),(m:aV),u,(D:aV),(B:aV),E,(C:aV),A,(n:aV),l]
def jO(n:Int):List Va:=yW 0 0 (():aV) 0 0 (():aV) 0 (():aV) n (():aV)
def zI(p m:Int):List Va:=yW p m (():aV) 0 0 (():aV) 0 (():aV) 0 (():aV)
theorem N4(w:Wo)(A:OA)(c:Nat)(h:RG 10 w (.slice A 1 c) [jO 2]):Calls prog 121 #[.slice A 1 c] w (fun e w'=>e=.returned (.tuple #[.agg #[.int .i64 2,.int .i64 1,()],z0])/\Below w w w'):=by have I:=zh (Blk.new w 24 [.int .i64 0,.int .i64 0,.slice none 0 0]);have E:=aH w (.cells #[z0,z0,()] 24);have K:=zh E;have J:=zh (h.below E zr);clear E;go_enter func121,ntmps121;go_upto_region 1 with fail;generalize w.alloc (.cells #[z0,z0,()] 24)=w0 at*;obtain⟨G,rfl,_,H,N⟩:=J.elt0 dC;have L:w0.cell? ⟨G.block,G.off+8,none⟩=some (.int .i64 2):=H 7 _ rfl;go_wp2_with fail;apply(IW _).mono;rintro e w1⟨rfl,D⟩;have B:=zh (I.belowS D);have F:=zh (aC K D);clear D L H N;have c0:=B.cell 0;have c1:=B.cell 1;have c2:=B.cell 2;have R:=B.frozen 0;have S:=B.frozen 1;have T:=B.frozen 2;simp only[eE,eF] at c0 c1 c2;go_wp2_with fail;obtain⟨w9,M,C⟩:=vB (x:=.int .i64 2) (y:=.int .i64 1) (z:=.slice none 0 0) B.out;rw[M];have O:=C.c0;have P:=C.c1;have Q:=C.c2;refine bodyPost_ret (v:=.tuple #[.agg #[.int .i64 2,.int .i64 1,()],z0]) (by simp[results,results121,go_sem,O,P,Q]) rfl ?_;exact⟨rfl,C.below F F.size zr⟩
theorem EI(w:Wo)(A:OA)(c g:Nat)(h:RG 10 w (.slice A 1 c) [jO 2])(S:Blk w g 207 [.func (.func 121) #[] #[]]):Calls prog 170 #[.slice A 1 c,.pointer g] w (fun e w'=>e=.returned (.tuple #[.agg (zI 2 1).toArray,z0])/\Below w w w'):=by have G:=zh (Blk.new w 90 (jO 0));have B:=aH w (.cells (jO 0).toArray 90);have J:=zh B;have I:=zh (h.below B zr);have E:=zh (S.belowS B);clear B;go_enter func170,ntmps170;go_upto_region 1 with fail;unfold jO yW at G J I E;generalize w.alloc (.cells #[z0,z0,(),z0,z0,(),z0,(),z0,()] 90)=w0 at*;have O:=E.cell 0;simp only[eE] at O;go_wp2_with fail;apply(N4 _ A c I).mono;rintro e w1⟨rfl,C⟩;have P:=zh (G.belowS C);have Q:=zh (aC J C);clear C O;go_upto_region 2 with fail;obtain⟨ν,μ,L,M,N,D⟩:=aR w1 24 [.int .i64 2,.int .i64 1,.slice none 0 0];rw[L,M];have H:=zh (P.belowS D);have K:=zh (aC Q D);obtain⟨s,t,u,_,_,_⟩:=N.three;clear L M N D;obtain⟨f,i,j,k,l,m,n,o,p,r,x,y,z,δ,ε,ζ,η,θ,ι,κ⟩:=H.ten;go_wp2_with fail;obtain⟨w9,R,F⟩:=AP (x0:=.int .i64 2) (x1:=.int .i64 1) (x2:=.slice none 0 0) (x3:=.int .i64 0) (x4:=.int .i64 0) (x5:=.slice none 0 0) (x6:=.int .i64 0) (x7:=.slice none 0 0) (x8:=.int .i64 0) (x9:=.slice none 0 0) H.out;rw[R];have q:=F.blk.ten;obtain⟨T,U,V,W,X,Y,Z,a,b,d,_,_,_,_,_,_,_,_,_,_⟩:=q;refine bodyPost_ret (v:=.tuple #[.agg #[.int .i64 2,.int .i64 1,(),z0,z0,(),z0,(),z0,()],z0]) (by simp[results,results170,go_sem,T,U,V,W,X,Y,Z,a,b,d]) rfl ?_;exact⟨rfl,F.below K K.size zr⟩
theorem XG(w:Wo)(n:Nat)(h:n<=1000000):∃w' g,w.alloc (.cells (madeCells #[()] n) 22)=w'/\w.heap.size=g/\OM w (fun g=>g<w.heap.size) w' (.slice (some ⟨g,0,none⟩) n n) (List.replicate n [])/\Below w w w':=
 ⟨_,_,rfl,rfl,OM.made w n zr h,aH w _⟩
theorem II(P M:Int):aF P M<=100000:=by have:=aM P M;omega
theorem Z0(w:Wo)(P M:Int)(R N:Nat)(mv:Va)(Mq:LI)(A:LL)(Cz:SI w mv Mq)(T:cZ P M Mq)(hR:R<=256)(c:A=N)(Cv:1<=N)(Cw:N<=64)(δ:Rows (aF P M) R A)
 (Cx:∀w',Below w w w'->Calls prog 287 #[.agg #[P,M,mv],R] w' (E0 w' A 0)):
 Calls prog 183 #[.agg #[P,M,mv],R] w (iV w P M Mq N (bC (aD P M Mq) (sS A R) N) 0):=by
 have Bk:Rows (aF P M) N (sS A R):=by have h:=zW (show 0<aF P M by have:=dB T.1;omega) δ R;rwa[c] at h
 have As:=zh (fun(w':Wo) (rv:Va) (S:Below w w w') (Dd:SS w' rv (sS A R))=>OR w' P M N mv rv Mq _ (Cz.below S zr) Dd (rS T om (by rw[yV];exact hR) Bk) Cv Cw);have Dc:=II P M;have Bu:Hid (∀i k,I64 (ent A i k)):=aG fun i k=>by
  by_cases hi:i<A
  .have h:=(δ i hi).2 k;exact I64.of_small (by unfold ent;omega) (by unfold ent;omega)
  .have e:A i []=[]:=by simp[List.getD,aY4 (show A<=i from om)]
   unfold ent;rw[e];exact I64.zero
 have Cc:=zh δ;have θ:=zh c;unfold iV at As;generalize bC (aD P M Mq) (sS A R) N=C at*;obtain⟨F,σ⟩:=xE (fun p=>aT N fun i=>ent A i p:Nat->LI);have Cj:Hid (stS R F R=sS A R):=aG (by rw[Y3,σ];unfold sS;rw[c]);have Bv:=zh σ;clear Bk δ T σ Dc;have Da:=fun(w:Wo)=>BK R om w;obtain⟨w1,I,hq⟩:=FCQ.mk' w P M mv;have Z:=zh hq;have Ao:=zh I;clear hq I;go_enter func183,ntmps183;go_upto_region 1 with fail;rw[Ao.out];clear Ao;have c0:=Z.fb.c0;have c1:=Z.fb.c1;have c2:=Z.fb.c2;go_wp2_with fail;refine(Cx w1 Z.fb.bel).mono ?_;rintro e w2 ⟨Em,rfl,Af,Db,Bf⟩;obtain⟨Cp,Dg,rfl,_⟩:=id Af;have ι:=zh Af;have Cb:=zh (Z.on Bf);clear Af Db Bf c0 c1 c2;change Hid (SS w2 (.slice Cp A Dg) A) at ι;rw[c] at ι|-;clear c;go_upto_region 5 with fail;clear Da;obtain⟨n,gv,I,J,t,φ⟩:=XG w2 R om;rw[I,J];obtain⟨Bp,B,Az,π,Bd,χ⟩:=aR n 74 [(N:aV),.slice gv R R];have Ba:gv+1=B:=by rw[<-π,<-I,World.size_alloc,J]
 rw[Az,Ba];have Ej:=φ.size;have Ef:w2.heap.size=gv:=J;have Ec:n.heap.size=B:=π;have Ed:=t.lt (g:=gv) rfl;have Ee:gv≠B:=om;rw[<-Y4 R F] at t;have H:Hid (OM w2 (fun g=>g<w2.heap.size\/g=B) Bp (.slice gv R R) (stS R F 0)):=aG ((t.names (Y:=fun g=>g<w2.heap.size\/g=B) (fun g Eh Df=>Df.resolve_right om)).below χ);have G:=zh Bd;have D:=zh (aC φ χ);clear I J Az π Ba t φ Bd χ;have ν:Bp.cell? (B 1 none)=some (.slice gv R R):=G.cell 1;go_wp2_with fail;clear ν;go_loopw [30] (fun i wr=>∃j:Nat,j<=R/\i=(j:aV)/\Hid (OM w2 (fun g=>g<w2.heap.size\/g=B) wr (.slice gv R R) (stS R F j))/\Hid (Blk wr B 74 [(N:aV),.slice gv R R])/\Hid (Below w2 w2 wr)/\n.heap.size<wr.heap.size) (fun i _=>R-(intOf i).toNat)
 case atStart=>exact⟨0,aZ5 _,rfl,H,G,D,by have:=G.lt;omega⟩
 case round=>
  clear H G D;obtain⟨j,Eg,rfl,H,G,D,ε⟩:=hrel;by_cases W:j<R
  .obtain⟨f,T⟩:=xE (fun i=>ent A i j:Nat->Int);have Bw:Hid (F j=aT N f):=aG (by rw[Bv.out,T]);have Co:=zh T;clear T;have At:Hid (OM w2 (fun g=>g<w2.heap.size\/g=B) wr (.slice gv R R) ((stS R F j).set j (aT 0 f))):=aG (by rw[NV,fx W];exact H.out);have Aq:Hid ((stS R F j).length=R):=aG (fw _ _ _);have Ci:Hid ((stS R F j).set j (aT N f)=stS R F (j+1)):=aG (by rw[<-Bw.out,fy W]);clear H;go_wp2_with fail;go_loopw [35] (fun i wr=>∃k:Nat,k<=N/\i=(k:aV)/\Hid (OM w2 (fun g=>g<w2.heap.size\/g=B) wr (.slice gv R R) ((stS R F j).set j (aT k f)))/\Hid (Blk wr B 74 [(N:aV),.slice gv R R])/\Hid (Below w2 w2 wr)/\n.heap.size<wr.heap.size) (fun i _=>N-(intOf i).toNat)
   case atStart=>exact⟨0,aZ5 _,rfl,At,G,D,ε⟩
   case round=>
    clear At G D ε;obtain⟨k,hk,rfl,H,G,D,ε⟩:=hrel;by_cases Bh:k<N
    .obtain⟨Dp,Dn,Dq,row,rfl,ψ,Cd,Aw⟩:=ι.eltA (k:=k) (by rw[θ.out];exact Bh);have Ae:row=R:=by rw[<-Aw.out];exact(Cc k (by rw[θ.out];exact Bh)).1
     obtain⟨Bm,y,rfl,Ai,Cm,Cl⟩:=Cd.elt (k:=j) (by rw[Ae];exact W);rw[Ae] at ψ;have Ek:=World.block_lt_of_cell? _ _ Ai;have Eb:=aE D.out ψ;have Bl:=aE D.out Ai;clear ψ Ai;have Ce:Hid (aT (k+1) f=aT k f++[y]):=aG (by rw[NW,Co.out];dsimp only;unfold ent;rw[Aw.out,Cl.out]);have Ac:((stS R F j).set j (aT k f)).length=R:=by rw[aZ9,Aq.out]
     have Bg:((stS R F j).set j (aT k f)).getD j []=aT k f:=by rw[fL,iP ⟨rfl,by rw[Aq.out];exact W⟩]
     obtain⟨El,Al,l,Ad⟩:=H.row (k:=j) (by rw[Ac];exact W);rw[Bg] at l;obtain⟨Ax,Bn,rfl⟩:=l.form';rw[aW] at l Al Ad;have Av:=zh l;have Ar:=zh Ad;have Bx:=zh Ac;have Bb:wr.cell? (B 1 none)=some (.slice gv R R):=G.cell 1;have Bq:=zh Bb;have Cq:=zh Al;have Cr:=zh Bl;clear Ac Bg l Ad Ae;go_wp2_with fail;refine dc 16 Bb Al Bl fun τ=>?_;refine dq 0 ?_;refine dq 1 ?_;refine dq 2 ?_;refine dq 3 ?_;refine dq 4 ?_;refine dq 5 ?_;refine dq 6 ?_;refine dq 7 ?_;refine dq 8 ?_;refine dq 9 ?_;refine dq 10 ?_;refine dq 11 ?_;try simp only[tz]
     refine dp 12 fun K hK=>?_;go_simp;obtain⟨U,ρ,I,J,Be,d⟩:=uP wr 3 [(y:aV)];rw[I,J];have κ:Hid (RI U ρ [y]):=aG Be;have E:=zh d;have Do:Hid (wr.heap.size=ρ):=aG J;clear I J Be d;have Dm:=aE E.out Bq.out;have Am:=aE E.out Cq.out;have Bo:=aE E.out Cr.out;refine hK.out _ _ (fun _=>⟨Dm,Am,Bo⟩) (fun Q=>?_);clear hK K;replace τ:=Q dC;clear Q;try simp only[tz]
     refine dp 13 fun K hK=>?_;have Ca:=zh (Av.below E zr);refine qX rfl _ _ rfl w2 _ (aT k f) rfl Ca.out (.slice ρ 1 1) [y] rfl (κ.si sM (fun i=>by rcases i with _|i;exact Cm.out;exact I64.zero)) (by rw[aW,aZ2];omega) (by have s:=E.size;have Bc:=D.size;omega) ?_;intro v' X m V Ag;rw[<-Ce.out] at m;obtain⟨ζ,ξ,rfl⟩:=m.form';rw[aW] at m Ag|-;have Bz:=zh m;have Ap:=zh V;have Ck:=zh Ag;have o:Hid (∀b,(Value.slice Ax k Bn).ownBlock=some b->w2.heap.size<=b/\b≠gv/\b≠B):=aG (fun b S=>⟨(Av.lt S).1,(Ar.out b S).1,fun e=>(Ar.out b S).2 (.inr e)⟩);have An:=zh ((G.belowS E).grown V (fun e=>(o _ e.symm).2.2 rfl));have Bs:=zh ((aC D E).grown V (aC D E).size (fun b S=>(o.out b S).1));have x1:X.cell? (B 1 none)=some (.slice gv R R):=An.cell 1;have Cy:gv<U.heap.size:=(by have s:=E.size;omega);have Aa:=V.block gv Cy (fun e=>(o _ e.symm).2.1 rfl);have x2:X.cell? ⟨gv,j,none⟩=some (.slice Ax k Bn):=(World.cell?_of_block (w:=U) (a:=⟨gv,j,none⟩) Aa).trans Am;have Eo:X.frozen? ⟨gv,j,none⟩=false:=(World.frozen?_of_block (w:=U) (a:=⟨gv,j,none⟩) Aa).trans ((H.below E).frozen j);have x3:X.cell? (Bm.add j)=some (y:aV):=(World.cell?_of_block (w:=U) (a:=Bm.add j) (V.block _ (by have s:=E.size;have Bc:=D.size;omega) (fun e=>by have Ct:=(o _ e.symm).1;omega))).trans Bo;clear m V Ag Aa;refine hK.out _ _ (fun _=>⟨x1,x2,x3⟩) (fun Q=>?_);clear hK K;replace τ:=Q dC;clear Q;try simp only[tz]
     refine dq 14 ?_;try simp only[tz]
     refine dn 15 fun K hK=>?_;go_simp;refine hK.out _ _ (fun h=>aB rfl h) (fun Q=>?_);clear hK K;clear Q;refine dw ?_;try simp only[tz]
     clear τ;have Au:=zh ((H.below E).app (fun g ω=>by have s:=E.size;rcases ω with ω|ω<;>omega) (i:=j) (by rw[Bx.out];exact W) Am Ap Bz Ck);rw[List.set_set] at Au;have Ab:=aU X gv j (.slice ζ (k+1) ξ);have Br:=zh (An.grown Ab (by intro e;have:=aZ0 e;omega));have Bt:=zh (Bs.setCell (p:=⟨gv,j,none⟩) (show w2.heap.size<=gv from om) (.slice ζ (k+1) ξ));have De:n.heap.size<(X.setCell ⟨gv,j,none⟩ (.slice ζ (k+1) ξ)).heap.size:=by have s:=E.size;have Bc:=Ap.size;have Ct:=Ab.size;omega
     clear Ab;go_wp2_with fail;exact⟨⟨k+1,om,pC,Au,Br,Bt,De⟩,oI⟩
    .obtain rfl:N=k:=om;rw[Ci.out] at H;go_wp2_with fail;exact⟨⟨j+1,om,pC,H,G,D,ε⟩,oI⟩
  .obtain rfl:R=j:=om;rw[Cj.out] at H;have Bi:=H.os (fun p Bj=>by rw[yV] at Bj;rw[LK A Bj];exact⟨by rw[aW,θ.out];omega,TO fun i _=>Bu.out i p⟩);have Cf:=zh (Bi.ss (by rw[yV];omega));clear Bi;have O:=zh (Cb.on D);have c0:=O.fb.c0;have c1:=O.fb.c1;have c2:=O.fb.c2;have Cs:wr.cell? B=some (N:aV):=G.cell 0;have ν:wr.cell? (B 1 none)=some (.slice gv R R):=G.cell 1;go_wp2_with fail;refine(As wr _ O.fb.bel Cf).mono ?_;rintro e U ⟨En,g5,rfl,Ah,d⟩;obtain⟨⟨μ,Aj,rfl,_⟩,⟨η,dc,rfl,_⟩⟩:=Ah.out;have κ:Hid (Sep wr U fun w9=>SI w9 (.slice μ Mq Aj) Mq/\SS w9 (.slice η C dc) C):=aG Ah;have r:=zh (O.on d);clear Ah d c0 c1 c2 Cs ν;generalize C=Ay at*;generalize Mq=ml at*;obtain⟨Dr,Ds,Dt,Du,Dv,Dw,Dx,Dy,Dz,Ea⟩:=r.q.five;go_wp2_with fail;obtain⟨w9,Cu,L⟩:=zL (x:=(P:aV)) (y:=(M:aV)) (z:=.slice μ ml Aj) (u:=(N:aV)) (v:=.slice η Ay dc) r.q;rw[Cu];have Dh:=L.c0;have Di:=L.c1;have Dj:=L.c2;have Dk:=L.c3;have Dl:=L.c4;have Ei:=O.q.lt;refine bodyPost_ret (v:=.tuple #[.agg #[P,M,.slice μ ml Aj,N,.slice η Ay dc],z0]) (by simp[results,results183,go_sem,Dh,Di,Dj,Dk,Dl]) rfl ?_;exact⟨_,_,rfl,(κ.grown L.gr (by rintro b e;cases e;omega)).mono O.fb.bel.size,L.below r.fb.bel r.fb.bel.size om⟩
theorem NN(w:Wo)(P M n:Int)(H I B C:Va)(Mq:LI)(gen F:LL)(S:SI w H Mq)(T:SI w I Mq)(U:SS w B gen)(V:SS w C F):
 Calls prog 12 #[.agg #[P,M,H,n,B],.agg #[P,M,I,n,C]] w (nX w (decide (gen=F))):=by
 have a:=zh (fun(w':Wo) (A:Below w w w')=>K3 w' P M H I Mq (S.below A zr) (T.below A zr));obtain⟨sb,J⟩:=xE (decide (gen=F));rw[<-J];have b:Hid (∀(w':Wo),Below w w w'->Calls prog 31 #[B,C] w' (nX w' sb)):=aG fun w' A=>by rw[J];exact vK w' B C gen F (U.below A zr) (V.below A zr)
 clear S T U V J;obtain⟨w1,R,X,Y,A⟩:=pR w 27 [(P:aV),(M:aV),H,(n:aV),B] [(P:aV),(M:aV),I,(n:aV),C];have N:=zh R;have D:=zh X;have E:=zh Y;have K:=zh A;clear R X Y A;have m:(n==n)=true:=by simp
 go_enter func12,ntmps12;go_upto_region 1 with fail;rw[N.out];clear N;have c:=D.cell 0;have d:=D.cell 1;have f:=D.cell 2;have i:=E.cell 0;have j:=E.cell 1;have k:=E.cell 2;go_wp2_with fail;apply(a.out w1 K).mono;rintro e w2⟨rfl,G⟩;have O:=zh (D.belowS G);have Q:=zh (E.belowS G);have L:=zh (aC K G);clear G c d f i j k;have g:=O.cell 3;have h:=O.cell 4;have l:=Q.cell 3;have b4:=Q.cell 4;go_wp2_with fail;apply(b.out w2 L).mono;rintro e o⟨rfl,W⟩;have Z:=zh (aC L W);clear W g h l b4;go_wp2;go_ret;exact⟨rfl,Z.out⟩
