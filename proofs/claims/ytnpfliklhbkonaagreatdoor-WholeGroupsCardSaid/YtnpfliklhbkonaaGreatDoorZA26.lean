/- Parts. -/
import Derived.Test.YtnpfliklhbkonaaGreatDoorZA22
set_option maxRecDepth 99999
set_option maxHeartbeats 0
set_option linter.unusedSimpArgs false
set_option linter.unusedVariables false
namespace Go.Proofs.YtnpfliklhbkonaaGreatDoor
open Go.Proofs.Tryz
open Go.RowKit
def qA(L:LI)(i:Nat):Prop:=∀p q,p<q->q<i->L p 0<=L q 0
def sW(L:LI)(i j:Nat):Prop:=∀p q,p<q->q<=i->q≠j->L p 0<=L q 0
def EC(L:LI)(j:Nat):LI:=(L.set j (L (j-1) 0)).set (j-1) (L j 0)
theorem FG(L:LI)(i k:Nat)(x:Int)(hi:i<L):(L.set i x).getD k 0=if i=k then x else L k 0:=by
 simp only[aZ4,List.getElem?_set];by_cases e:i=k
 .subst e;simp[hi]
 .simp[e]
theorem PT{L:LI}{j:Nat}(C:0<j)(B:j<L)(k:Nat):(EC L j).getD k 0=if k=j-1 then L j 0 else if k=j then L (j-1) 0 else L k 0:=by
 unfold EC;rw[FG _ _ _ _ (by rw[aZ9];omega),FG _ _ _ _ B];by_cases e:k=j-1
 .rw[iP e.symm,iP e]
 .rw[iN (show ¬j-1=k from fun h=>e h.symm),iN e];by_cases A:k=j
  .rw[iP A.symm,iP A]
  .rw[iN (show ¬j=k from fun h=>A h.symm),iN A]
theorem ib(A B:LI)(x y:Int):EC (A++x::y::B) (A.length+1)=A++y::x::B:=by simp[EC,List.set_append,List.getD]
theorem UQ{L:LI}{j:Nat}(C:0<j)(D:j<L):(EC L j).Perm L:=by
 obtain⟨i,rfl⟩:∃i,j=i+1:=⟨j-1,om⟩
 have A:L=L.take i++(L[i]::L[i+1]::L.drop (i+2)):=by
  conv=>lhs;rw[<-List.take_append_drop i L]
  rw[List.drop_eq_getElem_cons om,List.drop_eq_getElem_cons om]
 have B:=ib (L.take i) (L.drop (i+2)) L[i] L[i+1];rw[aY3,Nat.min_eq_left om,<-A] at B;rw[B];conv=>rhs;rw[A]
 exact List.Perm.append_left _ (List.Perm.swap _ _ _)
theorem sW.step{L:LI}{i j:Nat}(h:sW L i j)(C:0<j)(G:j<=i)(hi:i<L)(D:L j 0<L (j-1) 0):sW (EC L j) i (j-1):=by
 intro p q E hq F;rw[PT C om,PT C om,iN F];by_cases e:q=j
 .subst e;rw[iP rfl];by_cases A:p=q-1
  .rw[iP A];exact Int.le_of_lt D
  .rw[iN A,iN om];exact h p (q-1) om om om
 .rw[iN e];by_cases A:p=j-1
  .rw[iP A];have:j<q:=om;exact h j q this hq e
  .rw[iN A];by_cases B:p=j
   .rw[iP B];exact h (j-1) q om hq e
   .rw[iN B];exact h p q E hq e
theorem sW.done{L:LI}{i j:Nat}(h:sW L i j)(A:j=0\/¬L j 0<L (j-1) 0):qA L (i+1):=by
 intro p q C hq;by_cases e:q=j
 .subst e;rcases A with A|A
  .omega
  .by_cases B:p=q-1
   .subst B;omega
   .have:=h p (q-1) om om om;omega
 .exact h p q C om e
theorem qA.start{L:LI}{i:Nat}(h:qA L i):sW L i i:=fun p q A hq B=>h p q A om
theorem zK(w:Wo)(x:Int):Calls prog 398 #[x] w (fun e w'=>e=.returned (.bool false)/\w=w'):=by go_enter func398,ntmps398;go_wp2;go_ret;exact⟨by simp,rfl⟩
theorem W4(w:Wo)(x y:Int):Calls prog 342 #[x,y] w (fun e w'=>e=.returned (.bool (decide (x<y)))/\w=w'):=by
 obtain⟨b,A⟩:=xE (decide (x<y));rw[<-A];have B:decide (x<y)=b:=A.symm;clear A;go_enter func342,ntmps342;go_wp2_with fail;apply(zK _ x).mono;rintro e w1⟨rfl,rfl⟩;go_wp2;go_ret;exact⟨rfl,rfl⟩
theorem MW(w:Wo)(B n c:Nat)(A:OA)(xs:LI)(r:OI B w (.slice A n c) xs)(hn:xs=n)(ρ:n<=1000000)(hB:B<=w):
 Calls prog 336 #[.slice A n c,z0,n] w (fun e w'=>∃ys,e=.returned (.tuple #[])/\ys.Perm xs/\qA ys n/\OI B w' (.slice A n c) ys/\w.grownBy w' (Value.slice A n c).ownBlock):=by
 have C:=zh r;have v:=zh hn;have d:Hid (xs.Perm xs):=aG (List.Perm.refl _);have f:Hid (qA xs 1):=aG fun p q H E=>om;have a:Hid (w.grownBy w (Value.slice A n c).ownBlock):=aG (aP (bE w) _);clear r hn;go_enter func336,ntmps336;go_wp2;go_loopw [6,7] (fun x _ wr=>∃(i:Nat) (L:LI),1<=i/\i<=n+1/\x=(i:aV)/\Hid (L.Perm xs)/\Hid (qA L i)/\Hid (OI B wr (.slice A n c) L)/\Hid (w.grownBy wr (Value.slice A n c).ownBlock)) (fun x _ _=>n+1-(intOf x).toNat)
 .exact⟨1,xs,om,om,rfl,d,f,C,a⟩
 .
  clear C d f a;obtain⟨i,L,μ,ν,rfl,D,G,C,F⟩:=hrel;by_cases l:i<n
  .have ι:decide ((i:Int)<(n:Int))=true:=dE om;go_wp2;go_loopw [7] (fun y wr=>∃(j:Nat) (L:LI),j<=i/\y=(j:aV)/\Hid (L.Perm xs)/\Hid (sW L i j)/\Hid (OI B wr (.slice A n c) L)/\Hid (w.grownBy wr (Value.slice A n c).ownBlock)) (fun y _=>(intOf y).toNat)
   .exact⟨i,L,zr,rfl,D,aG G.start,C,F⟩
   .
    clear D G C F;obtain⟨j,L,θ,rfl,D,G,C,F⟩:=hrel;have h:L=n:=by rw[D.out.length_eq,v.out]
    have I:=zh h;obtain⟨g,κ,e,_,_⟩:=C.form om;injection e with e1 e2 e3;subst e1;clear e2 e3 h;by_cases m:0<j
    .have η:decide (0<(j:Int))=true:=dE om;have o:j<n:=om;have H:=C.cell j (I.out▸o);have E:=C.cell (j-1) (oA I.out);have U:=C.frozen j;have J:=C.frozen (j-1);obtain⟨x,V⟩:=xE (L j 0);obtain⟨y,W⟩:=xE (L (j-1) 0);rw[<-V] at H;rw[<-W] at E;have S:=zh V;have T:=zh W;obtain⟨k,hk⟩:=xE (j-1);have P:=zh hk;have ξ:(j:Int)-1=(k:Int):=om;have π:k<n:=om;have τ:IntKind.i64.wrap (k:Int)=(k:Int):=IntWalk.i64_in _ om;rw[<-hk] at E J;clear V W hk;have X:=aE (aI wr) H;have Y:=aE (aI wr) E;obtain⟨b,N⟩:∃b,decide (x<y)=b:=⟨_,rfl⟩
     have Z:=zh N;go_upto_region 4 with fail;refine tb 15 H E fun M=>?_;refine tq 0 ?_;refine tq 1 ?_;refine tq 2 ?_;refine tq 3 ?_;refine tq 4 ?_;refine tq 5 ?_;refine tq 6 ?_;refine tq 7 ?_;refine tq 8 ?_;refine tq 9 ?_;refine tq 10 ?_;refine tq 11 ?_;refine tq 12 ?_;try simp only[tz]
     refine tn 13 fun K hK=>?_;go_simp;apply(W4 _ x y).mono;rintro e χ⟨rfl,rfl⟩;rw[N];refine hK.out _ _ (⟨X,Y⟩) ?_;clear hK K M;intro M;try simp only[tz]
     refine tn 14 fun K hK=>?_;go_simp;refine hK.out _ _ M fun _=>?_;refine tw ?_;try simp only[tz]
     clear M;have Q:=zh (C.below (aI wr) zr);have s:=zh (bB F (aP (aI wr) _));have U:=Q.frozen j;have J:=Q.frozen k;cases b
     .have O:Hid (qA L (i+1)):=aG (G.done (.inr (by
       have:=Z.out;rw[decide_eq_false_iff_not,S.out,T.out] at this;exact this)))
      clear N H E X Y U J;go_wp2;exact⟨⟨i+1,L,om,om,pC,D,O,Q,s⟩,oI⟩
     .have R:Hid (sW (EC L j) i k):=aG (by
       have:=Z.out;rw[decide_eq_true_eq,S.out,T.out] at this;rw[P.out];exact G.step m θ (I.out▸l) this)
      have ε:Hid ((EC L j).Perm xs):=aG ((UQ m (I.out▸o)).trans D);have δ:Hid (OI B ((wr.setCell ⟨g,j,none⟩ (y:aV)).setCell ⟨g,k,none⟩ (x:aV)) (.slice g n c) (EC L j)):=aG (by have:=(C.set j y).set k x;unfold EC;rw[<-S.out,<-T.out,<-P.out];exact this);have u:Hid (w.grownBy ((wr.setCell ⟨g,j,none⟩ (y:aV)).setCell ⟨g,k,none⟩ (x:aV)) (Value.slice g n c).ownBlock):=aG (bB F (lF _ g j k _ _));have φ:(wr.setCell ⟨g,j,none⟩ (y:aV)).cell? ⟨g,k,none⟩=some (y:aV):=gJ E (fun e=>by injection e with e1 e2;have:=P.out;omega);have U:=C.frozen j;have J:=C.frozen k;clear N X Y;go_upto_region 6 with fail
      go_region
      all_goals
       have z:=zh (δ.below (aC (aI _) (aI _)) zr);have t:=zh (bB u (aP (aC (aI _) (aI _)) _));go_wp2_with fail;refine⟨⟨k,EC L j,om,rfl,ε,R,z,t⟩,oI⟩
    .obtain rfl:j=0:=om;have η:decide ((0:Int)<((0:Nat):Int))=false:=dG om;have O:Hid (qA L (i+1)):=aG (G.done (.inl rfl));go_upto_region 4 with fail
     go_quiet (fail)
     go_wp2;exact⟨⟨i+1,L,om,om,pC,D,O,aG (C.below (aY wr _) zr),aG (WL F _)⟩,oI⟩
  .have ι:decide ((i:Int)<(n:Int))=false:=dG om;have R:Hid (qA L n):=aG fun p q H E=>G.out p q H om;have σ:n<=i:=om;clear l;go_wp2;refine bodyPost_end (results_none rfl _ _ _) rfl ?_;exact⟨L,rfl,D.out,R.out,C.out,F.out⟩
theorem M4(x:Int)(w:Wo)(A:0<=x)(B:x<=18446744073709551615):Calls prog 346 #[.int .u64 x] w (fun e w'=>∃z,e=.returned (.int .i64 z)/\w=w'):=by
 go_enter func346,ntmps346
 go_wp2
 all_goals (go_ret;exact⟨_,rfl,rfl⟩)
theorem QD(x:Int)(w:Wo)(A:0<=x)(B:x<=18446744073709551615):Calls prog 250 #[.int .u64 x] w (fun e w'=>∃z,e=.returned (.int .i64 z)/\w=w'):=by go_enter func250,ntmps250;go_wp2_with fail;apply(M4 x _ A B).mono;rintro e w1⟨z,rfl,rfl⟩;go_wp2;go_ret;exact⟨_,rfl,rfl⟩
theorem S7(w:Wo)(B n c:Nat)(z:Int)(A:OA)(xs:LI)(C:OI B w (.slice A n c) xs)(hn:xs=n)(N:n<=12)(hB:B<=w):
 Calls prog 249 #[.slice A n c,z0,n,z] w (fun e w'=>∃ys,e=.returned (.tuple #[])/\ys.Perm xs/\qA ys n/\OI B w' (.slice A n c) ys/\w.grownBy w' (Value.slice A n c).ownBlock):=by
 have I:=zh C;have H:=zh hn;have M:(n:Int)<=12:=om;clear C hn;go_enter func249,ntmps249;go_wp2;go_loopw [1,2] (fun x y wr=>x=.int .i64 0/\y=(n:aV)/\w=wr) (fun _ _ _=>0)
 .exact⟨rfl,rfl,rfl⟩
 .obtain⟨rfl,rfl,rfl⟩:=hrel;go_wp2_with fail;apply(MW w B n c A xs I H om hB).mono;rintro e w1⟨ys,rfl,E,F,C,D⟩;have K:=zh E;have L:=zh F;have J:=zh C;have G:=zh D;clear E F C D;go_wp2;refine bodyPost_ret (v:=.tuple #[]) (by simp[results,results249,go_sem]) rfl ?_;exact⟨ys,rfl,K.out,L.out,J.out,G.out⟩
theorem Y0(w:Wo)(B n c:Nat)(A:OA)(xs:LI)(C:OI B w (.slice A n c) xs)(hn:xs=n)(M:n<=12)(hB:B<=w):
 Calls prog 132 #[.slice A n c] w (fun e w'=>∃ys,e=.returned (.tuple #[])/\ys.Perm xs/\qA ys n/\OI B w' (.slice A n c) ys/\w.grownBy w' (Value.slice A n c).ownBlock):=by
 have I:=zh C;have H:=zh hn;have N:(n:Int)<=12:=om;have O:IntKind.u64.wrap (n:Int)=(n:Int):=by rw[IntKind.wrap_u64];omega
 clear C hn;go_enter func132,ntmps132;go_wp2_with fail;apply(QD (n:Int) _ om om).mono;rintro e w1⟨z,rfl,rfl⟩;go_wp2_with fail;apply(S7 w B n c z A xs I H M hB).mono;rintro e w1⟨ys,rfl,E,F,C,D⟩;have K:=zh E;have L:=zh F;have J:=zh C;have G:=zh D;clear E F C D;go_wp2;refine bodyPost_end (results_none rfl _ _ _) rfl ?_;exact⟨ys,rfl,K.out,L.out,J.out,G.out⟩
