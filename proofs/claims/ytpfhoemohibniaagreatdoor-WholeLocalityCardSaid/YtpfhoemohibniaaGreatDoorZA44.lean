/- Texts of a claim, merged. -/
import Derived.Test.YtpfhoemohibniaaGreatDoorZA43
set_option maxRecDepth 100000
set_option linter.unusedSectionVars false
set_option maxHeartbeats 32000000
namespace Go.Proofs.YtpfhoemohibniaaGreatDoor
open Go.RowKit
def PR(O:aO)(n:Nat)(gen:LL)(d:Nat):Prop:=d≠0/\(∃x,aV O gen x/\cB x n=d)/\∀x,aV O gen x->(∃j,j<n/\x j≠0)->d<=cB x n
theorem GE(w:World)(P M:Int)(n q:Nat)(mv gv:Value)(Mod:LI)(gen:LL)(p:LI)(hm:SI w mv Mod)(hg:SS w gv gen)(hC:fH P M Mod n gen p)(G:0<gen.length)(T:n<=7)(hq:aC P M=(q:Int))(hqk:q^gen.length<=256):
  Calls Tryz.prog 10 #[.agg #[.int .i64 P,.int .i64 M,mv,.int .i64 (n:Int),gv]] w (fun e w'=>∃d:Nat,e=.returned (.tuple #[.int .i64 (d:Int),.int .i64 0])/\PR (aB P M Mod) n gen d/\Below w.heap.size w w'):=by
 have L:=zh (fun(w':World) (hb:Below w.heap.size w w')=>VJ w' P M n q mv gv Mod gen p (hm.below hb zr) (hg.below hb zr) hC G T hq hqk);have A:=zh (dD.mk' w P M mv n gv);clear hm hg hC G hq hqk;go_enter Tryz.func10,Tryz.ntmps10;go_upto_region 1 with fail;generalize w.alloc (.cells #[.int .i64 P,.int .i64 M,mv,.int .i64 (n:Int),gv] 27)=w0 at*;obtain⟨N,O,Q,R,S,_,_,_,_,_⟩:=A.blk.five;go_wp2_with fail;refine(L.out w0 A.bel).mono ?_;rintro e w1 ⟨X,U,best,rfl,C,B,I,E,H,F⟩;have W:=zh C;have V:=zh B;have K:Hid (PR (aB P M Mod) n gen (cB (fun j=>best.getD j 0) n)):=aD ⟨E,⟨_,I,rfl⟩,H⟩;have J:=zh (aA A.bel F);have D:=zh (kU w1 U best C (by omega));rw[B] at D;generalize cB (fun j=>best.getD j 0) n=d at*;clear C B I E H F N O Q R S;go_wp2_with fail;refine D.mono ?_;rintro e w2 ⟨rfl,rfl⟩;go_wp2_with fail;go_ret2;exact⟨d,rfl,K.out,J.out⟩
noncomputable def kJ(P M:Int)(Mod:LI)(n:Nat)(gen:LL):LL:=wO P M Mod n (cA (aB P M Mod) gen n)
section
variable {P M:Int} {Mod:LI} {n q:Nat} {gen:LL} {p:LI} (hC:fH P M Mod n gen p) (hq:aC P M=(q:Int)) (hqk:q^(n-gen.length)<=256)
include hC hq hqk
theorem nY:cS P M Mod n (cA (aB P M Mod) gen n)=0/\(cA (aB P M Mod) gen n).length=n-gen.length/\dP (aB P M Mod) (aC P M) n (cA (aB P M Mod) gen n) (jX (aB P M Mod) (cA (aB P M Mod) gen n) n):=by
 have hO:=hC.O;have C:Cn (aB P M Mod) (aC P M) n (cA (aB P M Mod) gen n):=Cn.null hO hC.rr.rows;have A:cS P M Mod n (cA (aB P M Mod) gen n)=0:=by unfold cS;have:=hC.n1;have:=hC.n64;rw[if_neg (by rw[jP hC.fld];simp),if_pos (by omega)];exact C.spaceE hC.fld (by omega)
 have B:=GQ hO hC.rr.rows;rw[yM hO hC.rr] at B;exact⟨A,by omega,(fH.mk' A).rr⟩
theorem B6:jO P M Mod n (cA (aB P M Mod) gen n)=0:=by obtain⟨A,B,_⟩:=nY hC hq hqk;unfold jO xJ;rw[if_pos A,B,hq,aZ8,if_pos (by omega)]
theorem uF:kJ P M Mod n gen=iS (aB P M Mod) q n (cA (aB P M Mod) gen n):=by obtain⟨A,B,_⟩:=nY hC hq hqk;unfold kJ wO II;rw[if_pos (B6 hC hq hqk),if_pos A,hq,aZ8,aZ8]
theorem vS:(kJ P M Mod n gen).length<=256:=by obtain⟨_,A,_⟩:=nY hC hq hqk;rw[uF hC hq hqk,kA,A];exact hqk
theorem FR{j:Nat}(B:j<(kJ P M Mod n gen).length):((kJ P M Mod n gen).getD j []).length=n/\(∀i,0<=((kJ P M Mod n gen).getD j []).getD i 0/\((kJ P M Mod n gen).getD j []).getD i 0<aC P M)/\dC (aB P M Mod) (aC P M) gen n (fun i=>((kJ P M Mod n gen).getD j []).getD i 0):=by
 obtain⟨_,E,D⟩:=nY hC hq hqk;have hO:=hC.O;rw[uF hC hq hqk] at B|-;rw[kA] at B;rw[wN B];have A:(aB P M Mod).Fld (q:Int):=by rw[<-hq];exact hO
 have C:Rows (q:Int) n (cA (aB P M Mod) gen n):=by rw[<-hq];exact D.rows
 refine⟨vG _ _ _ _ _ _,fun i=>by rw[hq];exact LU A n _ _ _ i,?_⟩;rw[<-fO hO hC.rr.rows,<-BZ A C];exact yU A C (yW _ _ _)
theorem MZ{h:Nat->Int}(G:dC (aB P M Mod) (aC P M) gen n h):∃j,j<(kJ P M Mod n gen).length/\∀i,((kJ P M Mod n gen).getD j []).getD i 0=h i:=by
 obtain⟨_,L,E⟩:=nY hC hq hqk;have hO:=hC.O;have C:(aB P M Mod).Fld (q:Int):=by rw[<-hq];exact hO
 have F:Rows (q:Int) n (cA (aB P M Mod) gen n):=by rw[<-hq];exact E.rows
 have K:=(fO hO hC.rr.rows h).2 G;have hm:=(E.mem hO).1 K;obtain⟨N,B⟩:∃N,N=cA (aB P M Mod) gen n:=⟨_,rfl⟩
 rw[<-B] at E F hm;obtain⟨A,J⟩:∃A,A=jX (aB P M Mod) N n:=⟨_,rfl⟩
 rw[<-J] at hm;have H:(aQ N.length fun i=>h (pvt A i)).length=N.length:=aT _ _;have I:∀k,0<=(aQ N.length fun i=>h (pvt A i)).getD k 0/\(aQ N.length fun i=>h (pvt A i)).getD k 0<(q:Int):=fun k=>by
  by_cases D:k<N.length
  .rw[aS D,<-hq];exact G.2.2 _
  .rw[aW (by rw[aT];omega)];have:=C.lt.pos;omega
 have hb:=MV C F H I;refine⟨lY q (aQ N.length fun i=>h (pvt A i)) N.length,?_,fun i=>?_⟩
 .rw[uF hC hq hqk,kA,<-B];exact DT I N.length
 .rw[uF hC hq hqk,<-B,<-hb,mC C F H,hm i];refine aJ fun k D=>?_;rw[aS D]
end
def cO(w:LI)(i:Int)(k:Nat):List Nat:=(List.range k).filter fun j=>decide (w.getD j 0≠0)&&decide ((j:Int)≠i)
theorem PC{w:LI}{i:Int}{k:Nat}(A:w.getD k 0≠0)(B:(k:Int)≠i):cO w i (k+1)=cO w i k++[k]:=by unfold cO;rw[List.range_succ,List.filter_append];simp only[List.filter_cons,List.filter_nil];rw[if_pos (by simp only[aY9,decide_eq_true_eq];exact⟨A,B⟩)]
theorem IE{w:LI}{i:Int}{k:Nat}(h:w.getD k 0=0\/(k:Int)=i):cO w i (k+1)=cO w i k:=by unfold cO;rw[List.range_succ,List.filter_append];simp only[List.filter_cons,List.filter_nil];rw[if_neg (by simp only[aY9,decide_eq_true_eq];rintro ⟨a,b⟩;rcases h with h|h;exact a h;exact b h),List.append_nil]
theorem lU(w:LI)(i:Int)(k:Nat):(cO w i k).length<=k:=by have:=List.length_filter_le (fun j=>decide (w.getD j 0≠0)&&decide ((j:Int)≠i)) (List.range k);rwa[List.length_range] at this
theorem sD(w:LI)(i n:Nat):(cO w (i:Int) n).length=cC (fun j=>decide (j≠i)&&decide (w.getD j 0≠0)) n:=by
 unfold cO;rw[mA];refine lZ fun j _=>?_;rw[Bool.and_comm];congr 1;by_cases e:j=i
 .subst e;simp
 .rw[decide_eq_true e,decide_eq_true (by omega)]
theorem vJ{w:LI}{i:Int}{k j:Nat}(h:j∈cO w i k):j<k:=by unfold cO at h;rw[List.mem_filter,List.mem_range] at h;exact h.1
theorem uS(w:World)(v:Value)(xs:LI)(i:Int)(b:SI w v xs)(hn:xs.length<=1000000):Calls Tryz.prog 27 #[v,.int .i64 i] w (pX w (zl (cO xs i xs.length))):=by
 obtain⟨A,c,rfl,Q⟩:=b;have S:=zh Q
 obtain⟨n,K⟩:∃n,n=xs.length:=⟨_,rfl⟩
 have V:=zh K;rw[<-K] at hn|-;clear Q K;have N:Hid (OI w.heap.size w (.slice none 0 0) (zl (cO xs i 0))):=aD (OI.nil _ _);have M:=zh (bE w);go_enter Tryz.func27,Tryz.ntmps27;go_wp2_with fail;go_loopw [5,10] (fun ov L wr=>∃(k:Nat) (A:Option Addr) (c:Nat),k<=n/\L=.int .i64 (k:Int)/\ov=.slice A (zl (cO xs i k)).length c/\Hid (OI w.heap.size wr (.slice A (zl (cO xs i k)).length c) (zl (cO xs i k)))/\Hid (Below w.heap.size w wr)) (fun _ L _=>n-(intOf L).toNat)
 case atStart=>exact⟨0,none,0,aZ5 _,rfl,rfl,N,M⟩
 case round=>
  clear N M;obtain⟨k,A,c,g,rfl,rfl,G,D⟩:=hrel;obtain⟨lo,H⟩:∃lo,lo=(zl (cO xs i k)).length:=⟨_,rfl⟩
  have U:Hid (lo<=k):=aD (by rw[H,aY];exact lU _ _ _);have B:=zh H;rw[<-H] at G|-;clear H;by_cases a:k<n
  .obtain⟨e,x,rfl,f,_,P⟩:=(S.below D zr).elt (k:=k) (by rw[<-V.out];exact a);by_cases F:x=0
   .have C:Hid (cO xs i (k+1)=cO xs i k):=aD (IE (.inl (by rw[P.out];exact F)));subst F;go_wp2_with fail;exact⟨⟨k+1,A,c,by omega,by push_cast;rfl,by rw[C.out,B.out],by rw[C.out,<-B.out];exact G,D⟩,by simp only[intOf];omega⟩
   .have h:(x !=0)=true:=by rw[bne_iff_ne];exact F
    by_cases E:(k:Int)=i
    .have C:Hid (cO xs i (k+1)=cO xs i k):=aD (IE (.inr E));have Z:((k:Int) !=i)=false:=by rw[bne_eq_false_iff_eq];exact E
     clear E F;go_wp2_with fail;exact⟨⟨k+1,A,c,by omega,by push_cast;rfl,by rw[C.out,B.out],by rw[C.out,<-B.out];exact G,D⟩,by simp only[intOf];omega⟩
    .have C:Hid (cO xs i (k+1)=cO xs i k++[k]):=aD (PC (by rw[P.out];exact F) E);have Z:((k:Int) !=i)=true:=by rw[bne_iff_ne];exact E
     have O:=zh (G.alloc (.cells #[.int .i64 (k:Int)] 3));have W:=zh (Blk.new wr 3 [.int .i64 (k:Int)]);have J:=zh (D.trans ((aF wr (.cells #[.int .i64 (k:Int)] 3)).mono D.size));clear E F;go_wp2_with (
      at_builtin;refine fF rfl _ _ rfl w.heap.size (.slice A lo c) (zl (cO xs i k)) rfl O.out wr.heap.size 1 (k:Int) rfl (W.cell 0) (by rw[<-B.out];have:=U.out;omega) J.size ?_;intro j l I R;obtain⟨Y,d,rfl⟩:=I.form';rw[aZ1,aZ2,<-B.out] at I|-;have X:=zh I;have T:=zh (O.bgrown J J.size R);clear I R)
     refine⟨⟨k+1,Y,d,by omega,by push_cast;rfl,?_,?_,T⟩,by simp only[intOf];omega⟩
     .rw[C.out,nF,aZ1,aZ2,B.out]
     .rw[C.out,nF,aZ1,aZ2,<-B.out];exact X
  .obtain rfl:n=k:=by omega
   go_wp2_with fail;go_ret;exact⟨_,rfl,G.out,D.out⟩
theorem LN(d:Nat)(A:Addr)(n c:Nat)(w:World):(Op.equalIn (d+1) 22 (.slice (some A) n c) (.slice none 0 0)).run Tryz.prog w=.ok false w:=by simp[Op.equalIn,run_underlying Tryz.underlying22]
theorem LO(d:Nat)(w:World):(Op.equalIn (d+1) 22 (.slice none 0 0) (.slice none 0 0)).run Tryz.prog w=.ok true w:=by simp[Op.equalIn,run_underlying Tryz.underlying22]
theorem xW(A:Addr)(n c:Nat)(w:World):(binOp .eql 22 (.slice (some A) n c) (.slice none 0 0)).run Tryz.prog w=.ok (.bool false) w:=by have h:=LN 9999 A n c w;show(do pure (.bool (<-Op.equalIn (9999+1) 22 (.slice (some A) n c) (.slice none 0 0))):Sem Value).run Tryz.prog w=_;rw[Sem.run_bind,h];rfl
theorem xV(w:World):(binOp .eql 22 (.slice none 0 0) (.slice none 0 0)).run Tryz.prog w=.ok (.bool true) w:=by have h:=LO 9999 w;show(do pure (.bool (<-Op.equalIn (9999+1) 22 (.slice none 0 0) (.slice none 0 0))):Sem Value).run Tryz.prog w=_;rw[Sem.run_bind,h];rfl
def wP(i n:Nat)(W:LL)(k:Nat)(wr:World)(u:Value):Prop:=
 (u=.slice none 0 0/\∀j,j<k->(W.getD j []).getD i 0≠1)\/
 (∃A B c,A<W.length/\u=.slice (some B) n c/\SI wr u (W.getD A [])/\(W.getD A []).getD i 0=1/\∀j,j<k->(W.getD j []).getD i 0=1->(cO (W.getD A []) (i:Int) n).length<=(cO (W.getD j []) (i:Int) n).length)
theorem CJ(w:World)(v:Value)(W:LL)(i n:Nat)(ω:SS w v W)(ν:∀j,j<W.length->(W.getD j []).length=n)(hi:i<n)(hn:n<=100)(Ay:W.length<=1000):
   Calls Tryz.prog 40 #[v,.int .i64 (i:Int)] w (fun e w'=>∃u,e=.returned u/\wP i n W W.length w' u/\Below w.heap.size w w'):=by
 have ι:=zh ω;have κ:=zh ν;obtain⟨A,c,rfl,_⟩:=ω;obtain⟨m,hm⟩:∃m,m=W.length:=⟨_,rfl⟩
 have I:=zh hm;rw[<-hm] at ι Ay|-;clear ν hm;have ζ:Hid (wP i n W 0 w (.slice none 0 0)):=aD (.inl ⟨rfl,fun j h=>absurd h (aY5 _)⟩);have r:=zh (bE w);go_enter Tryz.func40,Tryz.ntmps40;go_wp2_with fail;go_loopw [5,12] (fun Ao q wr=>∃k:Nat,k<=m/\q=.int .i64 (k:Int)/\Hid (wP i n W k wr Ao)/\Hid (Below w.heap.size w wr)) (fun _ q _=>m-(intOf q).toNat)
 case atStart=>exact⟨0,aZ5 _,rfl,ζ,r⟩
 case round=>
   clear ζ r;obtain⟨k,Bf,rfl,S,H⟩:=hrel;by_cases T:k<m
   . obtain⟨μ,Be,N,row,rfl,Av,Z,F⟩:=(ι.below H zr).eltA (k:=k) (by rw[<-I.out];exact T);have M:row.length=n:=by rw[<-F.out];exact κ.out k (by rw[<-I.out];exact T)
     obtain⟨L,x,rfl,Bi,_,a⟩:=Z.elt (k:=i) (by rw[M];exact hi);have ε:=zh M;rw[M] at Av;have Y:Hid (SI wr (.slice (some L) n N) row):=aD (by have:=Z.si;rwa[M] at this);clear M Z;by_cases G:x=1
     . have Ba:(x !=1)=false:=by rw[bne_eq_false_iff_eq];exact G
       rcases S.out with⟨rfl,ψ⟩|⟨D,d,b,o,rfl,ρ,ξ,π⟩
       . have R : Hid (wP i n W (k + 1) wr (.slice (some L) n N)) := aD (.inr ⟨k, L, N, by rw [<- I.out]; exact T, rfl, by rw [F.out]; exact Y.out, by rw [F.out, a.out]; exact G, fun j E B => by
             by_cases e:j=k
             . subst e;exact Nat.le_refl _
             . exact absurd B (ψ j (by omega))⟩)
         clear ψ G;have Bj:=fun w=>xV w;go_wp2_with fail;exact⟨⟨k+1,by omega,by push_cast;rfl,R,H⟩,by simp only[intOf];omega⟩
       . have y:=zh ρ;have t:=zh π;have Ad:=zh ξ;have Ah:=zh o;have An:=zh G;have s:Hid ((W.getD D []).length=n):=aD (κ D o);clear ρ π ξ o G;have Bk:=xW d n b;go_wp2_with fail;refine(uS wr _ row (i:Int) Y (by rw[ε.out];omega)).mono ?_;rintro e Bc ⟨Bl,rfl,U,f⟩;obtain⟨Ab,Ap,rfl⟩:=U.form';rw[ε.out] at U|-;have Aj:=zh U;have Ae:=zh f;have Af:=zh (y.below f zr);clear U f;go_wp2_with fail;refine(uS Bc _ (W.getD D []) (i:Int) Af (by rw[s.out];omega)).mono ?_;rintro e O ⟨Bm,rfl,V,g⟩;obtain⟨Ac,Aq,rfl⟩:=V.form';rw[s.out] at V|-;have Al:=zh V;have Ak:=zh (Aj.below g zr);have X:=zh (aA Ae g);have P:=zh (H.trans (X.mono H.size));have η:Hid (SI O (.slice Ab (zl (cO row (i:Int) n)).length Ap) (zl (cO row (i:Int) n))):=aD (Ak.si (by rw[aY];have:=lU row (i:Int) n;omega) (fG (n:=n) (by omega) fun j E=>vJ E));have θ:Hid (SI O (.slice Ac (zl (cO (W.getD D []) (i:Int) n)).length Aq) (zl (cO (W.getD D []) (i:Int) n))):=aD (Al.si (by rw[aY];have:=lU (W.getD D []) (i:Int) n;omega) (fG (n:=n) (by omega) fun j E=>vJ E));have K:Hid ((zl (cO row (i:Int) n)).length=(cO row (i:Int) n).length):=aD (aY _);have Q:Hid ((zl (cO (W.getD D []) (i:Int) n)).length=(cO (W.getD D []) (i:Int) n).length):=aD (aY _);obtain⟨C,σ⟩:∃C,C=(zl (cO row (i:Int) n)).length:=⟨_,rfl⟩
         obtain⟨lb,τ⟩:∃lb,lb=(zl (cO (W.getD D []) (i:Int) n)).length:=⟨_,rfl⟩
         rw[<-σ] at η K|-;rw[<-τ] at θ Q|-;have Bg:C<=100:=by rw[K.out];exact aZ6 (lU _ _ _) hn
         have Bh:lb<=100:=by rw[Q.out];exact aZ6 (lU _ _ _) hn
         --what the two ends say
         have δ : Hid (C <= lb -> wP i n W (k + 1) O (.slice (some L) n N)) := aD fun φ => .inr ⟨k, L, N, by rw [<- I.out]; exact T, rfl, by rw [F.out]; exact Y.below X zr, by rw [F.out, a.out]; exact An.out, fun j E B => by
             rw[F.out,<-K.out];by_cases e:j=k
             . subst e;rw[F.out,<-K.out];exact Nat.le_refl _
             . have:=t.out j (by omega) B;rw[<-Q.out] at this;omega⟩
         have Am : Hid (lb <= C -> wP i n W (k + 1) O (.slice (some d) n b)) := aD fun φ => .inr ⟨D, d, b, Ah, rfl, y.below X zr, Ad, fun j E B => by
             by_cases e:j=k
             . subst e;rw[F.out,<-K.out,<-Q.out];exact φ
             . exact t.out j (by omega) B⟩
         clear σ τ V g;by_cases p:C<lb
         . have J:=zh (δ (Nat.le_of_lt p));have Aw:decide ((C:Int)<(lb:Int))=true:=decide_eq_true (by omega);go_wp2_with fail;exact⟨⟨k+1,by omega,by push_cast;rfl,J,P⟩,by simp only[intOf];omega⟩
         . have J:=zh (Am (by omega));have Aw:decide ((C:Int)<(lb:Int))=false:=decide_eq_false (by omega);by_cases l:C=lb
           . have Ai:=zh (δ (by omega));have Ax:((C:Int)==(lb:Int))=true:=by rw[beq_iff_eq];omega
             have Ag:=zh (vI O _ _ _ _ η θ);have Bd:=zh l;have Az:lb<=C:=by omega
             clear l p;go_wp2_with fail;refine Ag.mono ?_;rintro e Bn ⟨z,rfl,rfl⟩;by_cases Aa:z<0
             . have Bb:decide (z<0)=true:=decide_eq_true Aa;go_wp2_with fail;exact⟨⟨k+1,by omega,by push_cast;rfl,Ai,P⟩,by simp only[intOf];omega⟩
             . have Bb:decide (z<0)=false:=decide_eq_false Aa;go_wp2_with fail;exact⟨⟨k+1,by omega,by push_cast;rfl,J,P⟩,by simp only[intOf];omega⟩
           . have Ax:((C:Int)==(lb:Int))=false:=by rw[beq_eq_false_iff_ne];omega
             have Az:lb<=C:=by omega
             clear l p;go_wp2_with fail;exact⟨⟨k+1,by omega,by push_cast;rfl,J,P⟩,by simp only[intOf];omega⟩
     . have Ba:(x !=1)=true:=by rw[bne_iff_ne];exact G
       have R:∀u,wP i n W k wr u->wP i n W (k+1) wr u:=fun u h=>by
         have χ:∀j,j<k+1->(W.getD j []).getD i 0=1->j<k:=fun j E B=>by
           by_cases e:j=k
           . subst e;rw[F.out,a.out] at B;exact absurd B G
           . omega
         rcases h with⟨e,h⟩|⟨D,μ,c,B,Ar,As,At,Au⟩
         . exact .inl ⟨e,fun j E B=>h j (χ j E B) B⟩
         . exact .inr ⟨D,μ,c,B,Ar,As,At,fun j E h=>Au j (χ j E h) h⟩
       have J:=zh (R _ S);clear R G;go_wp2_with fail;exact⟨⟨k+1,by omega,by push_cast;rfl,J,H⟩,by simp only[intOf];omega⟩
   . obtain rfl:m=k:=by omega
     rw[I.out] at S;go_wp2_with fail;go_ret;exact⟨_,rfl,by rw[I.out];exact S.out,H.out⟩
def KT(O:aO)(q:Int)(gen:LL)(n i m:Nat):Prop:=(∃h,dC O q gen n h/\h i=1/\cC (fun j=>decide (j≠i)&&decide (h j≠0)) n=m)/\∀h,dC O q gen n h->h i=1->m<=cC (fun j=>decide (j≠i)&&decide (h j≠0)) n
section
variable (w:World) (P M:Int) (n q:Nat) (mv gv:Value) (Mod:LI) (gen:LL) (p:LI) (hm:SI w mv Mod) (hg:SS w gv gen) (hC:fH P M Mod n gen p) (hq:aC P M=(q:Int)) (hqk:q^(n-gen.length)<=256)
include hm hg hC hq hqk
theorem F9:Calls Tryz.prog 38 #[.agg #[.int .i64 P,.int .i64 M,mv,.int .i64 (n:Int),gv]] w (fun e w'=>∃v,e=.returned (.tuple #[v,.int .i64 0])/\SS w' v (kJ P M Mod n gen)/\Below w.heap.size w w'):=by have Z:=zh (fun(w':World) (hb:Below w.heap.size w w')=>FD w' P M n mv gv Mod gen (hm.below hb zr) (hg.below hb zr) hC.err);have a:=zh (vS hC hq hqk);have c:=zh (B6 hC hq hqk);have d:Hid (wO P M Mod n (cA (aB P M Mod) gen n)=kJ P M Mod n gen):=aD rfl;generalize kJ P M Mod n gen=W at*;generalize cA (aB P M Mod) gen n=D at*;clear hm hg hC hq hqk;have C:=zh (dD.mk' w P M mv n gv);go_enter Tryz.func38,Tryz.ntmps38;go_upto_region 1 with fail;generalize w.alloc (.cells #[.int .i64 P,.int .i64 M,mv,.int .i64 (n:Int),gv] 27)=w0 at*;obtain⟨x0,x1,x2,x3,x4,_,_,_,_,_⟩:=C.blk.five;have B:=zh C.bel;go_wp2_with fail;refine(Z _ B).mono ?_;rintro e w1 ⟨u,h,rfl,G,R⟩;have I:=zh (aA B R);obtain⟨⟨K,V,rfl,_⟩,⟨H,L,rfl,_⟩⟩:=G.out;have E:=zh G.out;clear x0 x1 x2 x3 x4 G R B C;generalize Mod.length=U at*;generalize D.length=T at*;go_upto_region 2 with fail;obtain⟨w2,g,N,O,Q,A⟩:=bB w1 27 [.int .i64 P,.int .i64 M,.slice K U V,.int .i64 (n:Int),.slice H T L];rw[N,O];have X:=zh (aA I A);have J:Hid (SI w2 (.slice K U V) Mod/\SS w2 (.slice H T L) D):=aD ⟨E.1.below A zr,E.2.below A zr⟩;obtain⟨x0,x1,x2,x3,x4,_,_,_,_,_⟩:=Q.five;clear N O Q A E I;go_wp2_with fail;refine(IT w2 P M n _ _ Mod D J.1 J.2).mono ?_;rintro e f ⟨v,rfl,F,S⟩;rw[c.out];rw[d.out] at F;have b:Hid (SS f v W):=aD (F.ss (by have:=a.out;omega));have Y:=zh (aA X S);clear x0 x1 x2 x3 x4 F S;go_wp2_with fail;go_ret2;exact⟨v,rfl,b.out,Y.out⟩
omit hq hqk in
theorem VC(i:Nat)(hi:i<n):Calls Tryz.prog 15 #[.agg #[.int .i64 P,.int .i64 M,mv,.int .i64 (n:Int),gv],.int .i64 (i:Int)] w (iJ w 0):=by have C:=zh (fun(w':World) (hb:Below w.heap.size w w')=>eO w' P M n mv gv Mod gen (hm.below hb zr) (hg.below hb zr));rw[hC.err] at C;clear hm hg hC;have A:=zh (dD.mk' w P M mv n gv);go_enter Tryz.func15,Tryz.ntmps15;go_upto_region 1 with fail;generalize w.alloc (.cells #[.int .i64 P,.int .i64 M,mv,.int .i64 (n:Int),gv] 27)=w0 at*;obtain⟨x0,x1,x2,x3,x4,_,_,_,_,_⟩:=A.blk.five;go_wp2_with fail;refine(C _ A.bel).mono ?_;rintro e w1 ⟨rfl,B⟩;obtain⟨E,F,G,H,I,_,_,_,_,_⟩:=(A.on B).blk.five;have D:=zh (aA A.bel B);clear x0 x1 x2 x3 x4 B;go_wp2_with fail;go_ret;exact⟨rfl,D.out⟩
theorem NP(i:Nat)(hi:i<n)(Bd:n<=7):Calls Tryz.prog 16 #[.agg #[.int .i64 P,.int .i64 M,mv,.int .i64 (n:Int),gv],.int .i64 (i:Int)] w (fun e w'=>∃(u v:Value) (Y:Int),e=.returned (.tuple #[u,v,.int .i64 Y])/\((Y=11/\∀h,dC (aB P M Mod) (aC P M) gen n h->h i≠1)\/(Y=0/\∃A m c,u=.slice A m c/\KT (aB P M Mod) (aC P M) gen n i m))/\Below w.heap.size w w'):=by
 have Ae:=zh (fun(w':World) (hb:Below w.heap.size w w')=>F9 w' P M n q mv gv Mod gen p (hm.below hb zr) (hg.below hb zr) hC hq hqk);have Ak:=zh (fun(w':World) (hb:Below w.heap.size w w')=>mK w' P M mv Mod (hm.below hb zr) hC.fld);have Ag:=zh (vS hC hq hqk);have T:=zh (fun(j:Nat) (B:j<(kJ P M Mod n gen).length)=>FR hC hq hqk B);have δ:=zh (fun(h:Nat->Int) (F:dC (aB P M Mod) (aC P M) gen n h)=>MZ hC hq hqk F);generalize kJ P M Mod n gen=W at*;clear hm hg hC hq hqk;have G:=zh (dD.mk' w P M mv n gv);have Be:=fun w=>xV w;go_enter Tryz.func16,Tryz.ntmps16;go_upto_region 1 with fail;generalize w.alloc (.cells #[.int .i64 P,.int .i64 M,mv,.int .i64 (n:Int),gv] 27)=w0 at*;obtain⟨x0,x1,x2,x3,x4,_,_,_,_,_⟩:=G.blk.five;go_wp2_with fail;refine(Ae _ G.bel).mono ?_;rintro e w1 ⟨Aw,rfl,ω,E⟩;have ξ:=zh ω;have H:=zh (G.on E);clear x0 x1 x2 x3 x4 ω E G;obtain⟨x0,x1,x2,x3,x4,_,_,_,_,_⟩:=H.blk.five;go_wp2_with fail;refine(Ak _ H.bel).mono ?_;rintro e w2 ⟨a,rfl,χ,d⟩;have π:=zh (ξ.below d zr);have θ:=zh χ.out;have ζ:=zh (aA H.bel d);clear x0 x1 x2 x3 x4 χ d ξ H;go_wp2_with fail;refine(CJ w2 Aw W i n π (fun j B=>(T _ B).1) hi (by omega) (by have:=Ag.out;omega)).mono ?_;rintro e Ax ⟨u,rfl,Au,f⟩;have N:=zh (aA ζ f);have ι:=zh (θ.on f);clear f π θ ζ;rcases Au with⟨rfl,ψ⟩|⟨s,Ar,Aq,l,rfl,τ,E,σ⟩
 . have Aj : Hid (∀ h, dC (aB P M Mod) (aC P M) gen n h -> h i ≠ 1) := aD fun h F Z => by
     obtain⟨j,B,J⟩:=δ.out _ F;exact ψ j B (by rw[J];exact Z)
   clear ψ;go_wp2_with fail;go_ret3;exact⟨_,_,11,rfl,.inl ⟨rfl,Aj.out⟩,N.out⟩
 . have Q : Hid ((W.getD s []).length = n) := aD (T _ l).1;have κ : Hid (KT (aB P M Mod) (aC P M) gen n i (cO (W.getD s []) (i : Int) n).length) := aD ⟨⟨_, (T _ l).2.2, E, by rw [sD]⟩, fun h F Z => by
     obtain⟨j,B,J⟩:=δ.out _ F;have:=σ j B (by rw[J];exact Z);rw[sD (W.getD j [])] at this;exact aZ6 this (Nat.le_of_eq (lZ fun k _=>by rw[J k]))⟩
   have R:=zh τ;generalize W.getD s []=row at*;have Bf:=xW Ar n Aq;clear τ E σ l;go_wp2_with fail;refine(uS Ax _ row (i:Int) R (by rw[Q.out];omega)).mono ?_;rintro e C ⟨Bg,rfl,K,I⟩;obtain⟨Aa,As,rfl⟩:=K.form';rw[Q.out] at K|-;have Ah:Hid (∀j∈cO row (i:Int) n,j<n):=aD fun j B=>vJ B;have At:=lU row (i:Int) n;have V:Hid (SI C (.slice Aa (zl (cO row (i:Int) n)).length As) (zl (cO row (i:Int) n))):=aD (K.si (by rw[aY];omega) (fG (n:=n) (by omega) fun j B=>vJ B));rw[aY] at V|-;have Ab:=zh (aA N I);have Af:=zh (ι.on I);have Ao:=zh (R.below I zr);generalize cO row (i:Int) n=S at*;obtain⟨m,hm⟩:∃m,m=S.length:=⟨_,rfl⟩
   have U:=zh hm;rw[<-hm] at V κ At|-;clear K I hm ι R N;have μ:Hid (OI C.heap.size C (.slice none 0 0) []):=aD (OI.nil _ _);have ε:=zh (bE C);go_wp2_with fail;go_loopw [12,42] (fun ov r wr=>∃(k:Nat) (A:Option Addr) (c:Nat) (xs:LI),k<=m/\r=.int .i64 (k:Int)/\ov=.slice A k c/\Hid (xs.length=k)/\Hid (OI C.heap.size wr (.slice A k c) xs)/\Hid (Below C.heap.size C wr)) (fun _ r _=>m-(intOf r).toNat)
   case atStart=>exact⟨0,none,0,[],aZ5 _,rfl,rfl,aD rfl,μ,ε⟩
   case round=>
     clear μ ε;obtain⟨k,A,c,xs,Bc,rfl,rfl,X,Al,D⟩:=hrel;by_cases o:k<m
     . obtain ⟨Ay, x, rfl, Ba, _, ρ⟩ := (V.below D zr).elt (k := k) (by rw [aY, <- U.out]; exact o);obtain ⟨j, rfl, B⟩ : ∃ j : Nat, x = (j : Int) /\ j < n := by
         rw[<-ρ.out,gJ (by rw[<-U.out];exact o)];exact⟨_,rfl,Ah.out _ (by rw[aZ4,aZ3 (by rw[<-U.out];exact o)];exact aY6 _)⟩
       obtain⟨Az,y,b,Bb,_,_⟩:=(Ao.below D zr).elt (k:=j) (by rw[Q.out];exact B);injection b with b;subst b;clear ρ;go_wp2_with fail;refine(nZ wr a P M y Mod (Af.on D)).mono ?_;rintro e t ⟨rfl,g⟩;have Am:=zh (Al.below g zr);have η:=zh (D.trans (g.mono D.size));generalize fZ P M y=z at*;have ν:=zh (Am.alloc (.cells #[.int .i64 z] 3));have Ai:=zh (Blk.new t 3 [.int .i64 z]);have O:=zh (η.trans ((aF t (.cells #[.int .i64 z] 3)).mono η.size));clear g;go_wp2_with (
         at_builtin;refine fF rfl _ _ rfl C.heap.size (.slice A k c) xs rfl ν.out t.heap.size 1 z rfl (Ai.cell 0) (by have:=X.out;omega) O.size ?_;intro Bh Bi L φ;obtain⟨Ap,Av,rfl⟩:=L.form';rw[aZ1,aZ2,X.out] at L|-;have An:=zh L;have Ac:=zh (ν.bgrown O O.size φ);clear L φ)
       exact⟨⟨k+1,Ap,Av,xs++[z],by omega,by push_cast;rfl,rfl,aD (by rw[aZ1,aZ2,X.out]),An,Ac⟩,by simp only[intOf];omega⟩
     . obtain rfl:m=k:=by omega
       have Ad:=zh (aA Ab D);go_wp2_with fail;go_ret3;exact⟨_,_,0,rfl,.inr ⟨rfl,_,m,_,rfl,κ.out⟩,Ad.out⟩
theorem NL(i:Nat)(hi:i<n)(L:n<=7):Calls Tryz.prog 6 #[.agg #[.int .i64 P,.int .i64 M,mv,.int .i64 (n:Int),gv],.int .i64 (i:Int)] w (fun e w'=>∃(u v:Value) (B:Int),e=.returned (.tuple #[u,v,.int .i64 B])/\((B=11/\∀h,dC (aB P M Mod) (aC P M) gen n h->h i≠1)\/(B=0/\∃A m c,u=.slice A m c/\KT (aB P M Mod) (aC P M) gen n i m))/\Below w.heap.size w w'):=by have J:=zh (fun(w':World) (hb:Below w.heap.size w w')=>VC w' P M n mv gv Mod gen p (hm.below hb zr) (hg.below hb zr) hC i hi);have I:=zh (fun(w':World) (hb:Below w.heap.size w w')=>NP w' P M n q mv gv Mod gen p (hm.below hb zr) (hg.below hb zr) hC hq hqk i hi L);clear hm hg hC hq hqk;have C:=zh (dD.mk' w P M mv n gv);go_enter Tryz.func6,Tryz.ntmps6;go_upto_region 1 with fail;generalize w.alloc (.cells #[.int .i64 P,.int .i64 M,mv,.int .i64 (n:Int),gv] 27)=w0 at*;obtain⟨x0,x1,x2,x3,x4,_,_,_,_,_⟩:=C.blk.five;go_wp2_with fail;refine(J _ C.bel).mono ?_;rintro e w1 ⟨rfl,E⟩;have D:=zh (C.on E);clear x0 x1 x2 x3 x4 E C;obtain⟨x0,x1,x2,x3,x4,_,_,_,_,_⟩:=D.blk.five;go_wp2_with fail;refine(I _ D.bel).mono ?_;rintro e w2 ⟨u,v,B,rfl,G,F⟩;have K:=zh G;have H:=zh (aA D.bel F);clear x0 x1 x2 x3 x4 G F;go_wp2_with fail;go_ret3;exact⟨u,v,B,rfl,K.out,H.out⟩
end
def KW:LL:=[0,1].flatMap fun a=>[0,1].flatMap fun b=>[0,1].flatMap fun c=>[0,1].map fun d=>[a,b,c,d]
theorem RC:∀c∈KW,cB (fun j=>(gP (aB 2 1 []) c kO 7).getD j 0) 7=0\/3<=cB (fun j=>(gP (aB 2 1 []) c kO 7).getD j 0) 7:=by decide+kernel
theorem JB:∃c∈KW,cB (fun j=>(gP (aB 2 1 []) c kO 7).getD j 0) 7=3:=by decide+kernel
theorem L8:∀c∈KW,c.length=4:=by decide
theorem WL{x:Int}(A:0<=x)(B:x<2):x=0\/x=1:=by omega
theorem L9{a b c d:Int}(A:a=0\/a=1)(hb:b=0\/b=1)(B:c=0\/c=1)(C:d=0\/d=1):[a,b,c,d]∈KW:=by rcases A with rfl|rfl<;>rcases hb with rfl|rfl<;>rcases B with rfl|rfl<;>rcases C with rfl|rfl<;>decide
theorem AS{x y:Nat->Int}{n:Nat}(h:∀j,j<n->x j=y j):cB x n=cB y n:=lZ fun j A=>by rw[h j A]
theorem CG:cS 2 1 [] (7:Nat) kO=0:=by
 have hO:=dU uM;have hR:Rows (aC 2 1) 7 WE:=(bX hO (n:=7) (rows:=gU (tJ 2 3) 3) (by have h:=sE (show 0<aC 2 1 by rw[oC];decide) (show Rows (aC 2 1) 3 (tJ 2 3) by rw[show aC 2 1=((2:Nat):Int) from oC];exact C6 (by omega)) 3;rwa[vF,show eB 2 3=7 by decide] at h)).1.rows;have A:Cn (aB 2 1 []) (aC 2 1) 7 kO:=Cn.null hO hR;unfold cS;rw[if_neg (by rw[jP uM];simp),if_pos (by omega)];exact A.spaceE uM (by omega)
theorem Q8{d:Nat}(h:PR (aB 2 1 []) 7 kO d):d=3:=by
 have hC:=fH.mk' CG;have hO:=hC.O;have A:=hC.rr;obtain⟨T,⟨x,E,P⟩,L⟩:=h;obtain⟨D,G,Q⟩:=JB;have K:=L8 D G;have S:d<=3:=by
  rw[<-Q];refine L _ (yU hO A.rows (by rw[K,oB])) (aY0 fun M=>?_);have:cB (fun j=>(gP (aB 2 1 []) D kO 7).getD j 0) 7=0:=by rw[AS (y:=fun _=>0) fun j J=>aY0 fun h=>M ⟨j,J,h⟩];exact sF fun _=>rfl
  omega
 obtain⟨p,N⟩:∃p,p=jX (aB 2 1 []) kO 7:=⟨_,rfl⟩
 rw[<-N] at A;have B:∀j,x j=0\/x j=1:=fun j=>by
  have F:=(A.mem hO).1 E j;have C:0<=x j/\x j<aC 2 1:=by rw[F];exact cW hO _ _
  rw[oC] at C;exact WL C.1 C.2
 have H:=L9 (B (pvt p 0)) (B (pvt p 1)) (B (pvt p 2)) (B (pvt p 3));have I:∀j,x j=(gP (aB 2 1 []) [x (pvt p 0),x (pvt p 1),x (pvt p 2),x (pvt p 3)] kO 7).getD j 0:=fun j=>by rw[mC hO A.rows (by rw[oB];rfl)];rw[(A.mem hO).1 E j];refine aJ fun i hi=>?_;rw[oB] at hi;rcases(by omega:i=0\/i=1\/i=2\/i=3) with rfl|rfl|rfl|rfl<;>rfl
 have R:=RC _ H;rw[<-AS (x:=x) fun j _=>I j,P] at R;omega
theorem L7(w:World):Calls Tryz.prog 4 #[] w (fun e w'=>e=.returned (.bool true)/\Below w.heap.size w w'):=by
 have F:=zh (fun(w':World)=>N9 w');have T:=zh (fun(w':World) a b c d f h=>XZ w' a b c d f h);have q:Hid (∀(w':World) (u g:Value),SI w' u []->SS w' g kO->Calls Tryz.prog 10 #[.agg #[.int .i64 2,.int .i64 1,u,.int .i64 7,g]] w' (fun e w2=>e=.returned (.tuple #[.int .i64 3,.int .i64 0])/\Below w'.heap.size w' w2)):=aD fun w' u g v hg=>by refine(GE w' 2 1 7 2 u g [] kO _ v hg (fH.mk' CG) (by rw[oB];decide) (by decide) oC (by rw[oB];decide)).mono ?_;rintro e w2 ⟨d,rfl,t,hb⟩;obtain rfl:=Q8 t;exact⟨rfl,hb⟩
 have j:scS=⟨#[104,97,109,109,105,110,103,40,103,102,40,50,41,44,32,51,41]⟩:=by rfl
 rw[j] at F;clear j;go_enter Tryz.func4,Tryz.ntmps4;go_wp2_with fail;refine(F.out w).mono ?_;rintro e w1 ⟨a,b,c,d,f,rfl,M,Z⟩;obtain⟨I,O,X,_⟩:=M w1 fun _ _ _=>rfl;obtain⟨rfl,rfl,rfl,rfl,rfl⟩:a=.int .i64 3/\b=.string eF/\c=.int .i64 0/\d=.slice none 0 0/\f=.slice I 2 O:=by simpa[XBk] using X
 have H:=zh M;have Q:=zh Z;obtain⟨tx,k⟩:∃tx,tx=eF:=⟨_,rfl⟩
 rw[<-k] at H|-;clear M Z F k X;go_upto_region 2 with fail;obtain⟨w2,z,A,B,J,K⟩:=bB w1 43 [.int .i64 3,.string tx,.int .i64 0,.slice none 0 0,.slice I 2 O];rw[A,B];have r:Hid (BD w2 [.int .i64 3,.string tx,.int .i64 0,.slice none 0 0,.slice I 2 O]):=aD (H.out w2 fun p _ C=>K.cell C);have y:=zh J;have R:=zh (aA Q K);obtain⟨x0,x1,x2,x3,x4,_,_,_,_,_⟩:=J.five;clear A B J K H Q;go_wp2_with fail;refine(T.out w2 _ _ _ _ _ r).mono ?_;rintro e x ⟨u,g,rfl,E,i⟩;obtain⟨V,l,s,_⟩:=E.out.1;obtain⟨P,Y,W,_⟩:=E.out.2;rw[oB] at W;subst s W;have G:=zh E.out;have S:=zh (aA R i);clear E i x0 x1 x2 x3 x4 R T;go_upto_region 3 with fail;obtain⟨N,g4,A,B,C,D⟩:=bB x 27 [.int .i64 2,.int .i64 1,.slice V 0 l,.int .i64 7,.slice P 4 Y];rw[A,B];have U:Hid (SI N (.slice V 0 l) []/\SS N (.slice P 4 Y) kO):=aD ⟨G.1.below D zr,G.2.below D zr⟩;have o:=zh C;have m:=zh (aA S D);obtain⟨x0,x1,x2,x3,x4,_,_,_,_,_⟩:=C.five;clear A B C D S G;go_wp2_with fail;refine(q.out N _ _ U.1 U.2).mono ?_;rintro e δ ⟨rfl,L⟩;obtain⟨ε,ζ,η,θ,ι,_,_,_,_,_⟩:=(o.belowS L).five;have n:=zh (aA m L);clear L x0 x1 x2 x3 x4;go_wp2_with fail;go_ret;exact⟨rfl,n.out⟩
end Go.Proofs.YtpfhoemohibniaaGreatDoor
