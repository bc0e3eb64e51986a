/- Texts of a claim, merged. -/
import Derived.Test.YtpfhoemohibniaaGreatDoorZA23
set_option maxRecDepth 100000
set_option linter.unusedSimpArgs false
set_option linter.unusedVariables false
set_option maxHeartbeats 32000000
namespace Go.Proofs.YtpfhoemohibniaaGreatDoor
open Go.RowKit
def nQ(L:LI)(i:Nat):Prop:=∀p q,p<q->q<i->L.getD p 0<=L.getD q 0
def qB(L:LI)(i j:Nat):Prop:=∀p q,p<q->q<=i->q≠j->L.getD p 0<=L.getD q 0
def AV(L:LI)(j:Nat):LI:=(L.set j (L.getD (j-1) 0)).set (j-1) (L.getD j 0)
theorem CF(L:LI)(i k:Nat)(x:Int)(hi:i<L.length):(L.set i x).getD k 0=if i=k then x else L.getD k 0:=by
 simp only[aZ4,List.getElem?_set];by_cases e:i=k
 .subst e;simp[hi]
 .simp[e]
theorem L5{L:LI}{j:Nat}(C:0<j)(B:j<L.length)(k:Nat):(AV L j).getD k 0=if k=j-1 then L.getD j 0 else if k=j then L.getD (j-1) 0 else L.getD k 0:=by
 unfold AV;rw[CF _ _ _ _ (by rw[aZ9];omega),CF _ _ _ _ B];by_cases e:k=j-1
 .rw[if_pos e.symm,if_pos e]
 .rw[if_neg (show ¬j-1=k from fun h=>e h.symm),if_neg e];by_cases A:k=j
  .rw[if_pos A.symm,if_pos A]
  .rw[if_neg (show ¬j=k from fun h=>A h.symm),if_neg A]
theorem V8(A B:LI)(x y:Int):AV (A++x::y::B) (A.length+1)=A++y::x::B:=by simp[AV,List.set_append,List.getD]
theorem PO{L:LI}{j:Nat}(C:0<j)(D:j<L.length):(AV L j).Perm L:=by
 obtain⟨i,rfl⟩:∃i,j=i+1:=⟨j-1,by omega⟩
 have A:L=L.take i++(L[i]::L[i+1]::L.drop (i+2)):=by
  conv=>lhs;rw[<-List.take_append_drop i L]
  rw[List.drop_eq_getElem_cons (by omega),List.drop_eq_getElem_cons (by omega)]
 have B:=V8 (L.take i) (L.drop (i+2)) L[i] L[i+1];rw[aY3,Nat.min_eq_left (by omega),<-A] at B;rw[B];conv=>rhs;rw[A]
 exact List.Perm.append_left _ (List.Perm.swap _ _ _)
theorem qB.step{L:LI}{i j:Nat}(h:qB L i j)(C:0<j)(G:j<=i)(hi:i<L.length)(D:L.getD j 0<L.getD (j-1) 0):qB (AV L j) i (j-1):=by
 intro p q E hq F;rw[L5 C (by omega),L5 C (by omega),if_neg F];by_cases e:q=j
 .subst e;rw[if_pos rfl];by_cases A:p=q-1
  .rw[if_pos A];exact Int.le_of_lt D
  .rw[if_neg A,if_neg (by omega)];exact h p (q-1) (by omega) (by omega) (by omega)
 .rw[if_neg e];by_cases A:p=j-1
  .rw[if_pos A];have:j<q:=by omega
   exact h j q this hq e
  .rw[if_neg A];by_cases B:p=j
   .rw[if_pos B];exact h (j-1) q (by omega) hq e
   .rw[if_neg B];exact h p q E hq e
theorem qB.done{L:LI}{i j:Nat}(h:qB L i j)(A:j=0\/¬L.getD j 0<L.getD (j-1) 0):nQ L (i+1):=by
 intro p q C hq;by_cases e:q=j
 .subst e;rcases A with A|A
  .omega
  .by_cases B:p=q-1
   .subst B;omega
   .have:=h p (q-1) (by omega) (by omega) (by omega);omega
 .exact h p q C (by omega) e
theorem nQ.start{L:LI}{i:Nat}(h:nQ L i):qB L i i:=fun p q A hq B=>h p q A (by omega)
theorem vW(w:World)(x:Int):Calls Tryz.prog 165 #[.int .i64 x] w (fun e w'=>e=.returned (.bool false)/\w=w'):=by go_enter Tryz.func165,Tryz.ntmps165;go_wp2_with fail;go_ret;exact⟨by simp,rfl⟩
theorem RM(w:World)(x y:Int):Calls Tryz.prog 104 #[.int .i64 x,.int .i64 y] w (fun e w'=>e=.returned (.bool (decide (x<y)))/\w=w'):=by
 obtain⟨b,hb⟩:∃b,b=decide (x<y):=⟨_,rfl⟩
 rw[<-hb];have A:decide (x<y)=b:=hb.symm;clear hb;go_enter Tryz.func104,Tryz.ntmps104;go_wp2_with fail;refine(vW _ x).mono ?_;rintro e w1 ⟨rfl,rfl⟩;go_wp2_with fail;go_ret;exact⟨rfl,rfl⟩
theorem JG(w:World)(B n c:Nat)(A:Option Addr)(xs:LI)(s:OI B w (.slice A n c) xs)(hn:xs.length=n)(σ:n<=1000000)(hB:B<=w.heap.size):
   Calls Tryz.prog 98 #[.slice A n c,.int .i64 0,.int .i64 (n:Int)] w (fun e w'=>∃ys,e=.returned (.tuple #[])/\ys.Perm xs/\nQ ys n/\OI B w' (.slice A n c) ys/\w.grownBy w' (Value.slice A n c).ownBlock):=by
 have C:=zh s;have z:=zh hn;have f:Hid (xs.Perm xs):=aD (List.Perm.refl _);have h:Hid (nQ xs 1):=aD fun p q H E=>by omega
 have d:Hid (w.grownBy w (Value.slice A n c).ownBlock):=aD (aN (bE w) _);clear s hn;go_enter Tryz.func98,Tryz.ntmps98;go_wp2_with fail;go_loopw [6,7] (fun x _ wr=>∃(i:Nat) (L:LI),1<=i/\i<=n+1/\x=.int .i64 (i:Int)/\Hid (L.Perm xs)/\Hid (nQ L i)/\Hid (OI B wr (.slice A n c) L)/\Hid (w.grownBy wr (Value.slice A n c).ownBlock)) (fun x _ _=>n+1-(intOf x).toNat)
 case atStart=>exact⟨1,xs,by omega,by omega,rfl,f,h,C,d⟩
 case round=>
   clear C f h d;obtain⟨i,L,ν,ξ,rfl,D,G,C,F⟩:=hrel;by_cases m:i<n
   . have κ:decide ((i:Int)<(n:Int))=true:=decide_eq_true (by omega);go_wp2_with fail;go_loopw [7] (fun y wr=>∃(j:Nat) (L:LI),j<=i/\y=.int .i64 (j:Int)/\Hid (L.Perm xs)/\Hid (qB L i j)/\Hid (OI B wr (.slice A n c) L)/\Hid (w.grownBy wr (Value.slice A n c).ownBlock)) (fun y _=>(intOf y).toNat)
     case atStart=>exact⟨i,L,Nat.le_refl _,rfl,D,aD G.start,C,F⟩
     case round=>
       clear D G C F;obtain⟨j,L,ι,rfl,D,G,C,F⟩:=hrel;have l:L.length=n:=by rw[D.out.length_eq,z.out]
       have I:=zh l;obtain⟨g,μ,e,_,_⟩:=C.form (by omega);injection e with e1 e2 e3;subst e1;clear e2 e3 l;by_cases o:0<j
       . have θ:decide (0<(j:Int))=true:=decide_eq_true (by omega);have r:j<n:=by omega
         have H:=C.cell j (by rw[I.out];exact r);have E:=C.cell (j-1) (by rw[I.out];omega);have U:=C.frozen j;have J:=C.frozen (j-1);obtain⟨x,W⟩:∃x,x=L.getD j 0:=⟨_,rfl⟩
         obtain⟨y,X⟩:∃y,y=L.getD (j-1) 0:=⟨_,rfl⟩
         rw[<-W] at H;rw[<-X] at E;have R:=zh W;have T:=zh X;obtain⟨k,V⟩:∃k,k=j-1:=⟨_,rfl⟩
         have O:=zh V;have π:(j:Int)-1=(k:Int):=by omega
         have ρ:k<n:=by omega
         have φ:IntKind.i64.wrap (k:Int)=(k:Int):=IntWalk.i64_in _ (by omega);rw[<-V] at E J;clear W X V;have Y:=aE (aH wr) H;have Z:=aE (aH wr) E;obtain⟨b,hb⟩:∃b,decide (x<y)=b:=⟨_,rfl⟩
         have a:=zh hb;go_upto_region 4 with fail;refine aG.start (S:=fun w'=>w'.cell? ⟨g,j,none⟩=some (.int .i64 x)/\w'.cell? ⟨g,k,none⟩=some (.int .i64 y)) (by kernel_rfl) (⟨H,E⟩) (fun M=>?_);change aG _ _ _ _ 15 _ _ _;refine tq 0 ?_;refine tq 1 ?_;refine tq 2 ?_;refine tq 3 ?_;refine tq 4 ?_;refine tq 5 ?_;refine tq 6 ?_;refine tq 7 ?_;refine tq 8 ?_;refine tq 9 ?_;refine tq 10 ?_;refine tq 11 ?_;refine tq 12 ?_;try simp only[tz]
         refine aG.only (i:=13) (by kernel_rfl) rfl (fun K hK=>?_);go_simp;refine(RM _ x y).mono ?_;rintro e ψ ⟨rfl,rfl⟩;rw[hb];refine hK.out _ _ (⟨Y,Z⟩) ?_;clear hK K M;intro M;try simp only[tz]
         refine aG.only (i:=14) (by kernel_rfl) rfl (fun K hK=>?_);go_simp;refine hK.out _ _ M (fun η=>?_);clear hK K;clear η;refine aG.done (by kernel_rfl) ?_;try simp only[tz]
         clear M;have P:=zh (C.below (aH wr) zr);have t:=zh (aX F (aN (aH wr) _));have U:=P.frozen j;have J:=P.frozen k;cases b
         . have N:Hid (nQ L (i+1)):=aD (G.done (.inr (by
             have:=a.out;rw[decide_eq_false_iff_not,R.out,T.out] at this;exact this)))
           clear hb H E Y Z U J;go_wp2_with fail;exact⟨⟨i+1,L,by omega,by omega,by push_cast;rfl,D,N,P,t⟩,by simp only[intOf];omega⟩
         . have Q:Hid (qB (AV L j) i k):=aD (by
             have:=a.out;rw[decide_eq_true_eq,R.out,T.out] at this;rw[O.out];exact G.step o ι (by rw[I.out];exact m) this)
           have ζ:Hid ((AV L j).Perm xs):=aD ((PO o (by rw[I.out];exact r)).trans D);have ε:Hid (OI B ((wr.setCell ⟨g,j,none⟩ (.int .i64 y)).setCell ⟨g,k,none⟩ (.int .i64 x)) (.slice (some ⟨g,0,none⟩) n c) (AV L j)):=aD (by have:=(C.set j y).set k x;unfold AV;rw[<-R.out,<-T.out,<-O.out];exact this);have v:Hid (w.grownBy ((wr.setCell ⟨g,j,none⟩ (.int .i64 y)).setCell ⟨g,k,none⟩ (.int .i64 x)) (Value.slice (some ⟨g,0,none⟩) n c).ownBlock):=aD (aX F (iI _ g j k _ _));have χ:(wr.setCell ⟨g,j,none⟩ (.int .i64 y)).cell? ⟨g,k,none⟩=some (.int .i64 y):=eP E (fun e=>by injection e with e1 e2;have:=O.out;omega);have U:=C.frozen j;have J:=C.frozen k;clear hb Y Z;go_upto_region 6 with fail
           go_region
           all_goals
             have δ:=zh (ε.below (aA (aH _) (aH _)) zr);have u:=zh (aX v (aN (aA (aH _) (aH _)) _));go_wp2_with fail;refine⟨⟨k,AV L j,by omega,rfl,ζ,Q,δ,u⟩,by simp only[intOf];omega⟩
       . obtain rfl:j=0:=by omega
         have θ:decide ((0:Int)<((0:Nat):Int))=false:=decide_eq_false (by omega);have N:Hid (nQ L (i+1)):=aD (G.done (.inl rfl));go_upto_region 4 with fail
         go_quiet (fail)
         go_wp2_with fail;exact⟨⟨i+1,L,by omega,by omega,by push_cast;rfl,D,N,aD (C.below (bI wr _) zr),aD (Q2 F _)⟩,by simp only[intOf];omega⟩
   . have κ:decide ((i:Int)<(n:Int))=false:=decide_eq_false (by omega);have Q:Hid (nQ L n):=aD fun p q H E=>G.out p q H (by omega);have τ:n<=i:=by omega
     clear m;go_wp2_with fail;refine bodyPost_end (results_none rfl _ _ _) rfl ?_;exact⟨L,rfl,D.out,Q.out,C.out,F.out⟩
theorem JL(x:Int)(w:World)(A:0<=x)(B:x<=18446744073709551615):Calls Tryz.prog 108 #[.int .u64 x] w (fun e w'=>∃z,e=.returned (.int .i64 z)/\w=w'):=by
 go_enter Tryz.func108,Tryz.ntmps108
 go_wp2
 all_goals (go_ret;exact⟨_,rfl,rfl⟩)
theorem MF(x:Int)(w:World)(A:0<=x)(B:x<=18446744073709551615):Calls Tryz.prog 54 #[.int .u64 x] w (fun e w'=>∃z,e=.returned (.int .i64 z)/\w=w'):=by go_enter Tryz.func54,Tryz.ntmps54;go_wp2_with fail;refine(JL x _ A B).mono ?_;rintro e w1 ⟨z,rfl,rfl⟩;go_wp2_with fail;go_ret;exact⟨_,rfl,rfl⟩
theorem OB(w:World)(B n c:Nat)(z:Int)(A:Option Addr)(xs:LI)(C:OI B w (.slice A n c) xs)(hn:xs.length=n)(M:n<=12)(hB:B<=w.heap.size):
  Calls Tryz.prog 53 #[.slice A n c,.int .i64 0,.int .i64 (n:Int),.int .i64 z] w (fun e w'=>∃ys,e=.returned (.tuple #[])/\ys.Perm xs/\nQ ys n/\OI B w' (.slice A n c) ys/\w.grownBy w' (Value.slice A n c).ownBlock):=by
 have H:=zh C;have G:=zh hn;have L:(n:Int)<=12:=by omega
 clear C hn;go_enter Tryz.func53,Tryz.ntmps53;go_wp2_with fail;go_loopw [1,2] (fun x y wr=>x=.int .i64 0/\y=.int .i64 (n:Int)/\w=wr) (fun _ _ _=>0)
 case atStart=>exact⟨rfl,rfl,rfl⟩
 case round=>obtain⟨rfl,rfl,rfl⟩:=hrel;go_wp2_with fail;refine(JG w B n c A xs H G (by omega) hB).mono ?_;rintro e w1 ⟨ys,rfl,D,E,C,hg⟩;have J:=zh D;have K:=zh E;have I:=zh C;have F:=zh hg;clear D E C hg;go_wp2_with fail;refine bodyPost_ret (v:=.tuple #[]) (by simp[results,Tryz.results53,go_sem]) rfl ?_;exact⟨ys,rfl,J.out,K.out,I.out,F.out⟩
theorem IB(w:World)(B n c:Nat)(A:Option Addr)(xs:LI)(C:OI B w (.slice A n c) xs)(hn:xs.length=n)(L:n<=12)(hB:B<=w.heap.size):
  Calls Tryz.prog 23 #[.slice A n c] w (fun e w'=>∃ys,e=.returned (.tuple #[])/\ys.Perm xs/\nQ ys n/\OI B w' (.slice A n c) ys/\w.grownBy w' (Value.slice A n c).ownBlock):=by
 have H:=zh C;have G:=zh hn;have M:(n:Int)<=12:=by omega
 have N:IntKind.u64.wrap (n:Int)=(n:Int):=by rw[IntKind.wrap_u64];omega
 clear C hn;go_enter Tryz.func23,Tryz.ntmps23;go_wp2_with fail;refine(MF (n:Int) _ (by omega) (by omega)).mono ?_;rintro e w1 ⟨z,rfl,rfl⟩;go_wp2_with fail;refine(OB w B n c z A xs H G L hB).mono ?_;rintro e w1 ⟨ys,rfl,D,E,C,hg⟩;have J:=zh D;have K:=zh E;have I:=zh C;have F:=zh hg;clear D E C hg;go_wp2_with fail;refine bodyPost_end (results_none rfl _ _ _) rfl ?_;exact⟨ys,rfl,J.out,K.out,I.out,F.out⟩
end Go.Proofs.YtpfhoemohibniaaGreatDoor
