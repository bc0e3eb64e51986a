/- Texts of a claim, merged. -/
import Derived.Test.YtpfhoemohibniaaGreatDoorZA39
import Derived.Test.YtpfhoemohibniaaGreatDoorZA40
set_option maxRecDepth 100000
set_option maxHeartbeats 32000000
namespace Go.Proofs.YtpfhoemohibniaaGreatDoor
open Go.RowKit
theorem QL(w:World)(x y:Int):Calls Tryz.prog 153 #[.int .i64 x,.int .i64 y] w (fun e w'=>∃z,e=.returned (.int .i64 z)/\w=w'):=by
 go_enter Tryz.func153,Tryz.ntmps153;go_wp2_with fail;refine(vW _ x).mono ?_;rintro e w1 ⟨rfl,rfl⟩;go_wp2_with fail;refine(vW _ y).mono ?_;rintro e w1 ⟨rfl,rfl⟩;go_wp2_with fail
 all_goals (go_ret;exact⟨_,rfl,rfl⟩)
theorem vI(w:World)(u v:Value)(xs ys:LI)(C:SI w u xs)(D:SI w v ys):Calls Tryz.prog 87 #[u,v] w (fun e w'=>∃z,e=.returned (.int .i64 z)/\w=w'):=by
 obtain⟨A,c,rfl,C⟩:=C;obtain⟨B,d,rfl,D⟩:=D;have hn:=C.len;have hm:=D.len;have J:=zh C;have K:=zh D;obtain⟨n,F⟩:∃n,n=xs.length:=⟨_,rfl⟩
 obtain⟨m,E⟩:∃m,m=ys.length:=⟨_,rfl⟩
 have I:=zh F;have H:=zh E;rw[<-F] at hn|-;rw[<-E] at hm|-;clear C D F E;go_enter Tryz.func87,Tryz.ntmps87;go_wp2_with fail;go_loopw [11] (fun i wr=>∃k:Nat,k<=n/\i=.int .i64 (k:Int)/\w=wr) (fun i _=>n-(intOf i).toNat)
 case atStart=>exact⟨0,aZ5 _,rfl,rfl⟩
 case round=>
  obtain⟨k,R,rfl,rfl⟩:=hrel;by_cases M:k<n
  .obtain⟨N,x,rfl,P,_,_⟩:=J.elt (k:=k) (by rw[<-I.out];exact M);by_cases L:k<m
   .obtain⟨O,y,rfl,Q,_,_⟩:=K.elt (k:=k) (by rw[<-H.out];exact L);go_wp2_with fail;refine(QL w x y).mono ?_;rintro e w1 ⟨z,rfl,rfl⟩;by_cases G:z=0
    .subst G;go_wp2_with fail;exact⟨⟨k+1,by omega,by push_cast;rfl,trivial⟩,by simp only[intOf];omega⟩
    .have U:(z !=0)=true:=by rw[bne_iff_ne];exact G
     go_wp2_with fail;go_ret;exact⟨_,rfl,rfl⟩
   .have S:m<=k:=by omega
    go_wp2_with fail;go_ret;exact⟨_,rfl,rfl⟩
  .obtain rfl:n=k:=by omega
   by_cases T:n<m
   all_goals
    go_wp2_with fail;go_ret;exact⟨_,rfl,rfl⟩
def KS(O:aO)(q:Int)(n:Nat)(gen:LL)(best:LI):Prop:=
 best=[]\/(best.length=n/\(∀j,0<=best.getD j 0/\best.getD j 0<q)/\aV O gen (fun j=>best.getD j 0)/\cB (fun j=>best.getD j 0) n≠0)
def BdW(n:Nat)(best:LI)(m:Nat):Prop:=best≠[]/\cB (fun j=>best.getD j 0) n<=m
structure SrS(O:aO)(q:Int)(n:Nat)(gen:LL)(a sb:Nat)(P M N:Int)(mv gv sv:Value)(wr:World)(best:LI)(k:Nat):Prop where
 blk:∃A c,Blk wr sb 115 [.pointer (some ⟨a,0,none⟩),.int .i64 P,.int .i64 M,mv,.int .i64 N,gv,sv,.slice A best.length c,.int .i64 (k:Int)]/\OI (sb+1) wr (.slice A best.length c) best
 bst:KS O q n gen best
theorem Blk.nine{w:World}{g:Nat}{t:TypeId}{a b c d e f h i j:Value}(hb:Blk w g t [a,b,c,d,e,f,h,i,j]):
  w.cell? ⟨g,0,none⟩=some a/\w.cell? ⟨g,1,none⟩=some b/\w.cell? ⟨g,2,none⟩=some c/\w.cell? ⟨g,3,none⟩=some d/\w.cell? ⟨g,4,none⟩=some e/\w.cell? ⟨g,5,none⟩=some f/\w.cell? ⟨g,6,none⟩=some h/\w.cell? ⟨g,7,none⟩=some i/\w.cell? ⟨g,8,none⟩=some j:=
 ⟨hb.cell 0,hb.cell 1,hb.cell 2,hb.cell 3,hb.cell 4,hb.cell 5,hb.cell 6,hb.cell 7,hb.cell 8⟩
section
variable {O:aO} {q:Int} {n:Nat} {gen:LL} {a sb:Nat} {P M N:Int} {mv gv sv:Value} {w w':World} {best:LI} {k:Nat}
theorem SrS.on(h:SrS O q n gen a sb P M N mv gv sv w best k)(hb:Below w.heap.size w w'):SrS O q n gen a sb P M N mv gv sv w' best k:=by obtain⟨A,c,B,C⟩:=h.blk;exact⟨⟨A,c,B.belowS hb,C.below hb zr⟩,h.bst⟩
end
theorem rM{O:aO}{P M:Int}{n B:Nat}{gen:LL}{w:World}{v:Value}{best:LI}(hb:KS O (aC P M) n gen best)(hn:n<=1000)(A:OI B w v best):SI w v best:=by
 have D:=aK P M;rcases hb with e|⟨e,C,_⟩
 .exact A.si (by rw[e];simp) fun k=>by rw[e];exact I64.zero
 .exact A.si (by omega) fun k=>by have:=C k;exact I64.of_small (by omega) (by omega)
theorem sF{x:Nat->Int}(h:∀j,x j=0):∀{n},cB x n=0
 |0=>rfl
 |n+1=>by have A:=sF h (n:=n);unfold cB at A|-;simp only[cC,A,h n];decide
theorem PI(x:Nat->Int)(n:Nat):cB x (n+1)=cB x n+if x n≠0 then 1 else 0:=by unfold cB;simp only[cC,decide_eq_true_eq]
theorem OI.sepI{B:Nat}{w:World}{v:Value}{xs:LI}(h:OI B w v xs)(I:xs.length<=17592186044416)(J:∀k,I64 (xs.getD k 0)):Sep B w fun w2=>SI w2 v xs:=fun w2 F=>by obtain⟨A,c,rfl,C⟩:=h.si I J;refine⟨A,c,rfl,C.len,C.cap,fun k H=>?_,C.wf⟩;obtain⟨D,e,G⟩:=C.cell k H;subst e;have E:=h.lt (g:=D.block) rfl;exact⟨D,rfl,by rw[F _ (by rw[bS];exact E.1) (by rw[bS];exact E.2)];exact G⟩
theorem FB {P M : Int} {Mod : LI} {n : Nat} {gen : LL} {xs : LI} (hO : (aB P M Mod).Fld (aC P M)) (I : xs.length = n) (hn : 1 <= n) (D : ∀ j, 0 <= xs.getD j 0 /\ xs.getD j 0 < aC P M) (K : aV (aB P M Mod) gen (fun j => xs.getD j 0)) {A : Nat} (H : A < n) (F : xs.getD A 0 ≠ 0) :
   KS (aB P M Mod) (aC P M) n gen (bR (aB P M Mod) ((aB P M Mod).inv (xs.getD A 0)) xs)/\bR (aB P M Mod) ((aB P M Mod).inv (xs.getD A 0)) xs≠[]/\
     cB (fun j=>(bR (aB P M Mod) ((aB P M Mod).inv (xs.getD A 0)) xs).getD j 0) n=cB (fun j=>xs.getD j 0) n/\∀j,I64 ((bR (aB P M Mod) ((aB P M Mod).inv (xs.getD A 0)) xs).getD j 0):=by
 have L:=D A;have hi:=hO.inv_lt (xs.getD A 0);have hm:=hO.mul_inv (xs.getD A 0) (by omega) L.2;have G:(aB P M Mod).inv (xs.getD A 0)≠0:=fun e=>by rw[e,hO.mul_zero] at hm;omega
 have N:=aK P M;have B:(bR (aB P M Mod) ((aB P M Mod).inv (xs.getD A 0)) xs).length=n:=by rw[gI,I]
 have C:=(Rows.scale hO.lt ((aB P M Mod).inv (xs.getD A 0)) xs).2;have E:cB (fun j=>(bR (aB P M Mod) ((aB P M Mod).inv (xs.getD A 0)) xs).getD j 0) n=cB (fun j=>xs.getD j 0) n:=by rw[show(fun j=>(bR (aB P M Mod) ((aB P M Mod).inv (xs.getD A 0)) xs).getD j 0)=fun j=>(aB P M Mod).mul ((aB P M Mod).inv (xs.getD A 0)) (xs.getD j 0) from funext fun j=>jB hO _ _ _];exact wL hO hi G D n
 have J:cB (fun j=>xs.getD j 0) n≠0:=by
   have key:∀m,A<m->cB (fun j=>xs.getD j 0) m≠0:=by
     intro m
     induction m with
     |zero=>intro h;omega
     |succ m ih=>
       intro h;rw[PI];by_cases e:A=m
       . subst e;rw[if_pos F];omega
       . have:=ih (by omega);omega
   exact key n H
 refine⟨.inr ⟨B,C,(K.smul hO _).congr fun j=>by rw[jB hO],by rw[E];exact J⟩,fun e=>by rw[e] at B;simp at B;omega,E,fun j=>I64.of_small (by have:=C j;omega) (by have:=C j;omega)⟩
theorem VB(w:World)(B a sb n k:Nat)(P M N:Int)(Mod:LI)(mv gv sv wv:Value)(gen:LL)(best xs:LI)(Bx:∀δ,Below B w δ->GF δ a P M Mod)(hB:B<=sb)(hO:(aB P M Mod).Fld (aC P M))
  (Ar:SrS (aB P M Mod) (aC P M) n gen a sb P M N mv gv sv w best k)(At:Sep (sb+1) w (fun w2=>SI w2 wv xs))(Bi:xs.length=n)(hn:n<=1000)(hn1:1<=n)(Bz:∀j,0<=xs.getD j 0/\xs.getD j 0<aC P M)(Ca:aV (aB P M Mod) gen (fun j=>xs.getD j 0))(Dk:k<=1000000):
  Calls Tryz.prog 123 #[.pointer (some ⟨sb,0,none⟩),wv] w (fun e w'=>e=.returned (.tuple #[])/\∃Bc,SrS (aB P M Mod) (aC P M) n gen a sb P M N mv gv sv w' Bc (k+1)/\w.grownBy w' (some sb)/\(∀m,BdW n best m->BdW n Bc m)/\(cB (fun j=>xs.getD j 0) n≠0->BdW n Bc (cB (fun j=>xs.getD j 0) n))):=by
 obtain⟨Ao,Ap,Ae,Bk⟩:=Ar.blk;have Ai:=zh Ar.bst;have Cx:B<=w.heap.size:=aZ6 hB (Nat.le_of_lt Ae.lt);have Cl:=zh Bx;have Bs:=zh hO;have Cq:=zh At;have An:=zh Bz;have Bv:=zh Ca;have A:=zh Bi;have Bq:=zh (Ae.set_ 8 (.int .i64 ((k:Int)+1)));have Af:=bF w sb 8 (.int .i64 ((k:Int)+1));have X:=zh Af;have χ:=zh (Bk.grown Af (fun g h e=>by have Bw:=(Bk.lt h).1;have:=aZ0 e;omega));have H:=zh (At.grown Af (by rintro g e;cases e;omega));obtain⟨U,η,θ,ι,κ,μ,ν,ξ,π⟩:=Ae.nine;have Ct:=Ae.frozen 8;obtain⟨wA,wc,rfl,_⟩:=At.out;rw[Bi] at Cq H|-;have Cv:cB (fun j=>xs.getD j 0) n<=n:=yC _ _;have Cu:cB (fun j=>best.getD j 0) n<=n:=yC _ _;obtain⟨W,Bg⟩:∃W,W=cB (fun j=>xs.getD j 0) n:=⟨_,rfl⟩
 have ζ:=zh Bg;rw[<-Bg] at Cv|-;obtain⟨D,Aq⟩:∃D,D=cB (fun j=>best.getD j 0) n:=⟨_,rfl⟩
 have Av:=zh Aq;rw[<-Aq] at Cu;have Au:Hid ((best.length=0/\best=[])\/(best.length=n/\best≠[]/\D≠0)):=aD (by
  rcases Ar.bst with e|⟨L,_,_,ρ⟩
  .exact .inl ⟨by rw[e];rfl,e⟩
  .exact .inr ⟨L,(fun e=>by rw[e] at L;simp at L;omega),(by rw[Aq];exact ρ)⟩)
 clear Ar Ae Bk Bx hO At Bi Bz Ca Bg Aq Af;go_enter Tryz.func123,Tryz.ntmps123;go_upto_region 1 with fail;have Da:w.heap.size<=(w.setCell ⟨sb,8,none⟩ (.int .i64 ((k:Int)+1))).heap.size:=X.size;generalize w.setCell ⟨sb,8,none⟩ (.int .i64 ((k:Int)+1))=w1 at*;clear U η θ ι κ μ ν ξ π Ct;have Ak:Hid (∀δ,Below B w1 δ->GF δ a P M Mod):=aD fun δ h=>Cl.out δ (((Below.refl B w).grown X Cx (fun g e=>by cases e;exact hB)).trans h);have R:Hid (Blk w1 sb 115 [.pointer (some ⟨a,0,none⟩),.int .i64 P,.int .i64 M,mv,.int .i64 N,gv,sv,.slice Ao best.length Ap,.int .i64 ((k+1:Nat):Int)]):=aD (by push_cast;exact Bq.out);have Az:=zh (rM Ai hn χ);obtain⟨lb,Bj⟩:∃lb,lb=best.length:=⟨_,rfl⟩
 have q:=zh Bj;rw[<-Bj] at R Az Au;clear Bj Bq Da;have key:∀Ah:Nat,(Ah=0/\best=[]\/Ah≠0/\best≠[]/\Ah=cB (fun j=>best.getD j 0) n)->(Ah<=n)->True:=fun _ _ _=>trivial;clear key;obtain⟨U,η,θ,ι,κ,μ,ν,ξ,π⟩:=R.nine;rcases Au.out with⟨Cz,σ⟩|⟨By,σ,Be⟩
 .have Aj:Hid (lb=0/\best=[]\/lb≠0/\best≠[]/\lb=cB (fun j=>best.getD j 0) n):=aD (.inl ⟨by omega,σ⟩);have Dg:lb<=n:=by omega
  have Cb:¬0<lb:=by omega
  clear Cz σ;go_upto_region 4 with fail;go_wp2_with fail;refine(kU w1 _ xs (by rw[<-A.out] at H;rw[<-A.out];exact H.out.out) (by rw[A.out];omega)).mono ?_;rintro e w2 ⟨rfl,rfl⟩;rw[A.out,<-ζ.out];have f:Hid (SrS (aB P M Mod) (aC P M) n gen a sb P M N mv gv sv w1 best (k+1)):=aD ⟨⟨Ao,Ap,by rw[<-q.out];exact R.out,χ.out⟩,Ai.out⟩;by_cases Z:W=0
  .have Bh:((W:Int)==0)=true:=by rw[beq_iff_eq];omega
   have r:=zh Z;clear Z;go_wp2_with fail;refine bodyPost_ret (v:=.tuple #[]) (by simp[results,Tryz.results123,go_sem]) rfl ?_;exact⟨rfl,best,f.out,X.out,fun m h=>h,fun h=>absurd r.out h⟩
  have Bh:((W:Int)==0)=false:=by rw[beq_eq_false_iff_ne];omega
  have As:¬(0<lb/\lb<W):=fun h=>Cb h.1;have z:lb=0\/W<=lb:=by omega
  have Cy:(decide (0<(lb:Int))&&decide ((lb:Int)<(W:Int)))=false:=by
   rcases z with e|e
   .rw[decide_eq_false (by omega:¬0<(lb:Int))];rfl
   .rw[decide_eq_false (by omega:¬(lb:Int)<(W:Int)),Bool.and_false]
  have Am:=zh z;have r:=zh Z;clear z As Z;go_wp2_with fail;refine(zH w1 (.slice wA n wc) xs (by rw[<-A.out] at H;rw[<-A.out];exact H.out.out)).mono ?_;rintro e w2 ⟨Dd,rfl,Bl,rfl⟩;rcases Bl with⟨d,x,rfl,c,_⟩|⟨_,Bm⟩;rotate_left
  .exact absurd (ζ.trans (sF fun j=>Bm j)) r.out
  rw[A.out] at x;obtain⟨C,I⟩:∃C,C=xs.getD d 0:=⟨_,rfl⟩
  rw[<-I] at c;have E:=zh (FB Bs A hn1 An Bv x (by rw[<-I];exact c));rw[<-I] at E;have Ay:Hid (inQ (aC P M) C≠0):=aD (by unfold inQ;have:=An.out d;rw[<-I] at this;rw[if_pos this];exact c);obtain⟨Cd,c',Aa,Ab⟩:=H.out.out;rw[A.out] at Aa;injection Aa with L ρ e3;subst L;obtain⟨Bb,Bo,rfl,s,_,ψ⟩:=Ab.elt (k:=d) (by rw[A.out];exact x);obtain rfl:C=Bo:=by rw[I];exact ψ.out
  clear Ab ψ I c ρ e3;go_upto_region 7 with fail;refine aG.start (S:=fun w'=>w'.cell? ⟨sb,0,none⟩=some (.pointer (some ⟨a,0,none⟩))/\w'.cell? (Bb.add d)=some (.int .i64 C)) (by kernel_rfl) (⟨U,s⟩) (fun Y=>?_);change aG _ _ _ _ 14 _ _ _;refine tq 0 ?_;refine tq 1 ?_;refine tq 2 ?_;refine tq 3 ?_;refine tq 4 ?_;refine tq 5 ?_;refine tq 6 ?_;refine tq 7 ?_;try simp only[tz]
  refine aG.only (i:=8) (by kernel_rfl) rfl (fun K hK=>?_);go_simp;refine(mG _ a P M C Mod (Ak _ ((Below.refl B w1).drew)) Ay).mono ?_;rintro e Bn ⟨rfl,Ac⟩;have F:=zh (aA (aH w1) Ac);have b4:=aE F.out U;have ω:=aE F.out s;clear Ac;refine hK.out _ _ (⟨b4,ω⟩) ?_;clear hK K Y;intro Y;try simp only[tz]
  refine tq 9 ?_;refine tq 10 ?_;refine tq 11 ?_;refine tq 12 ?_;try simp only[tz]
  refine aG.only (i:=13) (by kernel_rfl) rfl (fun K hK=>?_);go_simp;refine hK.out _ _ Y (fun Bf=>?_);clear hK K;clear Bf;refine aG.done (by kernel_rfl) ?_;try simp only[tz]
  clear Y;have Bd:B<=w1.heap.size:=aZ6 hB (Nat.le_of_lt R.lt);have Ax:=zh (Ak _ (F.mono Bd));have Ba:=zh ((H.on F).out);have Cp:=zh (f.on F);obtain⟨Q,t⟩:∃Q,Q=fJ P M Mod C:=⟨_,rfl⟩
  rw[<-t];have φ:Hid (Q=(aB P M Mod).inv C):=aD t;clear t U η θ ι κ μ ν ξ π s ω;go_wp2_with fail;refine(pF Bn a P M Q Mod xs _ Ax Ba (by rw[A.out];omega)).mono ?_;rintro e G ⟨u,rfl,O,Ad⟩;obtain⟨T,V,rfl⟩:=O.form';rw[φ.out] at O;obtain⟨bst,b⟩:∃bst,bst=bR (aB P M Mod) ((aB P M Mod).inv C) xs:=⟨_,rfl⟩
  rw[<-b] at O E;rw[show(bR (aB P M Mod) Q xs).length=bst.length by rw[b,φ.out]];have Cf:=zh b;clear b;have Cm:Hid (bst.length=n):=aD (by rcases E.1 with e|⟨e,_⟩;exact absurd e E.2.1;exact e);have J:=zh (aA F Ad);have l:Hid (OI (sb+1) G (.slice T bst.length V) bst):=aD (O.mono (aZ6 (Nat.succ_le_of_lt R.lt) F.size));have o:=zh (R.belowS J);have Bu:=zh (χ.below J zr);have Al:Hid (∀y,w.grownBy (G.setCell ⟨sb,7,none⟩ y) (some sb)):=aD fun y=>aX (aX X (aN J _)) (bF G sb 7 y);have Br:Hid (w.grownBy G (some sb)):=aD (aX X (aN J _));have Bt:=zh (f.on J);have ε:Hid (SrS (aB P M Mod) (aC P M) n gen a sb P M N mv gv sv (G.setCell ⟨sb,7,none⟩ (.slice T bst.length V)) bst (k+1)):=aD ⟨⟨T,V,o.set_ 7 (.slice T bst.length V),l.grown (bF G sb 7 _) (fun g h e=>by have Bw:=(l.lt h).1;have:=aZ0 e;omega)⟩,E.1⟩;have p:Hid ((∀m,BdW n best m->BdW n bst m)/\(W≠0->BdW n bst W)):=aD (by
   have L:cB (fun j=>bst.getD j 0) n=W:=by rw[E.out.2.2.1,ζ.out]
   refine⟨fun m h=>⟨E.2.1,?_⟩,fun _=>⟨E.2.1,by omega⟩⟩;rcases Aj.out with⟨_,e⟩|⟨Cr,_,e⟩
   .exact absurd e h.1
   .have:=h.2;have:=Am.out;omega)
  clear O Ad;obtain⟨U,η,θ,ι,κ,μ,ν,ξ,π⟩:=o.nine;have Cs:=o.frozen 7;obtain⟨τ,Ag⟩:∃τ,τ=bst.length:=⟨_,rfl⟩
  rw[<-Ag] at ε l|-;clear Ag
  .have Cw:((lb:Int)==0)=true:=by rw[beq_iff_eq];omega
   go_wp2_with fail;refine bodyPost_end (results_none rfl _ _ _) rfl ?_;exact⟨rfl,bst,ε.out,Al.out _,p.1,p.2⟩
 .have Aj:Hid (D=0/\best=[]\/D≠0/\best≠[]/\D=cB (fun j=>best.getD j 0) n):=aD (.inr ⟨Be,σ,Av.out⟩);have Cb:0<lb:=by omega
  have Co:=zh By;have Ci:=Av;have Aw:=zh Be;have Ce:=zh σ;clear By σ Be;go_wp2_with fail;refine(kU w1 _ best (by rw[q.out] at Az;rw[q.out];exact Az.out) (by rw[<-q.out];have:=Au.out;omega)).mono ?_;rintro e w2 ⟨rfl,rfl⟩;rw[<-q.out,Co.out,<-Av.out];go_upto_region 4 with fail;go_wp2_with fail;refine(kU w1 _ xs (by rw[<-A.out] at H;rw[<-A.out];exact H.out.out) (by rw[A.out];omega)).mono ?_;rintro e w2 ⟨rfl,rfl⟩;rw[A.out,<-ζ.out];have f:Hid (SrS (aB P M Mod) (aC P M) n gen a sb P M N mv gv sv w1 best (k+1)):=aD ⟨⟨Ao,Ap,by rw[<-q.out];exact R.out,χ.out⟩,Ai.out⟩;by_cases Z:W=0
  .have Bh:((W:Int)==0)=true:=by rw[beq_iff_eq];omega
   have r:=zh Z;clear Z;go_wp2_with fail;refine bodyPost_ret (v:=.tuple #[]) (by simp[results,Tryz.results123,go_sem]) rfl ?_;exact⟨rfl,best,f.out,X.out,fun m h=>h,fun h=>absurd r.out h⟩
  have Bh:((W:Int)==0)=false:=by rw[beq_eq_false_iff_ne];omega
  by_cases As:0<D/\D<W
  .obtain⟨Af,Dj⟩:=As;have Cj:Hid (BdW n best W):=aD (by
    rcases Aj.out with⟨e,_⟩|⟨_,L,ρ⟩
    .omega
    .exact⟨L,by omega⟩)
   have Dh:decide (0<(D:Int))=true:=decide_eq_true (by omega);have Di:decide ((D:Int)<(W:Int))=true:=decide_eq_true (by omega);go_wp2_with fail;refine bodyPost_ret (v:=.tuple #[]) (by simp[results,Tryz.results123,go_sem]) rfl ?_;exact⟨rfl,best,f.out,X.out,fun m h=>h,fun _=>Cj.out⟩
  have z:D=0\/W<=D:=by omega
  have Cy:(decide (0<(D:Int))&&decide ((D:Int)<(W:Int)))=false:=by
   rcases z with e|e
   .rw[decide_eq_false (by omega:¬0<(D:Int))];rfl
   .rw[decide_eq_false (by omega:¬(D:Int)<(W:Int)),Bool.and_false]
  have Am:=zh z;have De:0<D:=Nat.pos_of_ne_zero Aw.out;have Df:W<=D:=by omega
  have r:=zh Z;clear z As Z;go_wp2_with fail;refine(zH w1 (.slice wA n wc) xs (by rw[<-A.out] at H;rw[<-A.out];exact H.out.out)).mono ?_;rintro e w2 ⟨Dd,rfl,Bl,rfl⟩;rcases Bl with⟨d,x,rfl,c,_⟩|⟨_,Bm⟩;rotate_left
  .exact absurd (ζ.trans (sF fun j=>Bm j)) r.out
  rw[A.out] at x;obtain⟨C,I⟩:∃C,C=xs.getD d 0:=⟨_,rfl⟩
  rw[<-I] at c;have E:=zh (FB Bs A hn1 An Bv x (by rw[<-I];exact c));rw[<-I] at E;have Ay:Hid (inQ (aC P M) C≠0):=aD (by unfold inQ;have:=An.out d;rw[<-I] at this;rw[if_pos this];exact c);obtain⟨Cd,c',Aa,Ab⟩:=H.out.out;rw[A.out] at Aa;injection Aa with L ρ e3;subst L;obtain⟨Bb,Bo,rfl,s,_,ψ⟩:=Ab.elt (k:=d) (by rw[A.out];exact x);obtain rfl:C=Bo:=by rw[I];exact ψ.out
  clear Ab ψ I c ρ e3;go_upto_region 7 with fail;refine aG.start (S:=fun w'=>w'.cell? ⟨sb,0,none⟩=some (.pointer (some ⟨a,0,none⟩))/\w'.cell? (Bb.add d)=some (.int .i64 C)) (by kernel_rfl) (⟨U,s⟩) (fun Y=>?_);change aG _ _ _ _ 14 _ _ _;refine tq 0 ?_;refine tq 1 ?_;refine tq 2 ?_;refine tq 3 ?_;refine tq 4 ?_;refine tq 5 ?_;refine tq 6 ?_;refine tq 7 ?_;try simp only[tz]
  refine aG.only (i:=8) (by kernel_rfl) rfl (fun K hK=>?_);go_simp;refine(mG _ a P M C Mod (Ak _ ((Below.refl B w1).drew)) Ay).mono ?_;rintro e Bn ⟨rfl,Ac⟩;have F:=zh (aA (aH w1) Ac);have b4:=aE F.out U;have ω:=aE F.out s;clear Ac;refine hK.out _ _ (⟨b4,ω⟩) ?_;clear hK K Y;intro Y;try simp only[tz]
  refine tq 9 ?_;refine tq 10 ?_;refine tq 11 ?_;refine tq 12 ?_;try simp only[tz]
  refine aG.only (i:=13) (by kernel_rfl) rfl (fun K hK=>?_);go_simp;refine hK.out _ _ Y (fun Bf=>?_);clear hK K;clear Bf;refine aG.done (by kernel_rfl) ?_;try simp only[tz]
  clear Y;have Bd:B<=w1.heap.size:=aZ6 hB (Nat.le_of_lt R.lt);have Ax:=zh (Ak _ (F.mono Bd));have Ba:=zh ((H.on F).out);have Cp:=zh (f.on F);obtain⟨Q,t⟩:∃Q,Q=fJ P M Mod C:=⟨_,rfl⟩
  rw[<-t];have φ:Hid (Q=(aB P M Mod).inv C):=aD t;clear t U η θ ι κ μ ν ξ π s ω;go_wp2_with fail;refine(pF Bn a P M Q Mod xs _ Ax Ba (by rw[A.out];omega)).mono ?_;rintro e G ⟨u,rfl,O,Ad⟩;obtain⟨T,V,rfl⟩:=O.form';rw[φ.out] at O;obtain⟨bst,b⟩:∃bst,bst=bR (aB P M Mod) ((aB P M Mod).inv C) xs:=⟨_,rfl⟩
  rw[<-b] at O E;rw[show(bR (aB P M Mod) Q xs).length=bst.length by rw[b,φ.out]];have Cf:=zh b;clear b;have Cm:Hid (bst.length=n):=aD (by rcases E.1 with e|⟨e,_⟩;exact absurd e E.2.1;exact e);have J:=zh (aA F Ad);have l:Hid (OI (sb+1) G (.slice T bst.length V) bst):=aD (O.mono (aZ6 (Nat.succ_le_of_lt R.lt) F.size));have o:=zh (R.belowS J);have Bu:=zh (χ.below J zr);have Al:Hid (∀y,w.grownBy (G.setCell ⟨sb,7,none⟩ y) (some sb)):=aD fun y=>aX (aX X (aN J _)) (bF G sb 7 y);have Br:Hid (w.grownBy G (some sb)):=aD (aX X (aN J _));have Bt:=zh (f.on J);have ε:Hid (SrS (aB P M Mod) (aC P M) n gen a sb P M N mv gv sv (G.setCell ⟨sb,7,none⟩ (.slice T bst.length V)) bst (k+1)):=aD ⟨⟨T,V,o.set_ 7 (.slice T bst.length V),l.grown (bF G sb 7 _) (fun g h e=>by have Bw:=(l.lt h).1;have:=aZ0 e;omega)⟩,E.1⟩;have p:Hid ((∀m,BdW n best m->BdW n bst m)/\(W≠0->BdW n bst W)):=aD (by
   have L:cB (fun j=>bst.getD j 0) n=W:=by rw[E.out.2.2.1,ζ.out]
   refine⟨fun m h=>⟨E.2.1,?_⟩,fun _=>⟨E.2.1,by omega⟩⟩;rcases Aj.out with⟨_,e⟩|⟨Cr,_,e⟩
   .exact absurd e h.1
   .have:=h.2;have:=Am.out;omega)
  clear O Ad;obtain⟨U,η,θ,ι,κ,μ,ν,ξ,π⟩:=o.nine;have Cs:=o.frozen 7;obtain⟨τ,Ag⟩:∃τ,τ=bst.length:=⟨_,rfl⟩
  rw[<-Ag] at ε l|-;clear Ag;have Cw:((D:Int)==0)=false:=by rw[beq_eq_false_iff_ne];have:=Aw.out;omega
  by_cases Dl:W<D
  .have Db:decide ((W:Int)<(D:Int))=true:=decide_eq_true (by omega);go_wp2_with fail;refine bodyPost_end (results_none rfl _ _ _) rfl ?_;exact⟨rfl,bst,ε.out,Al.out _,p.1,p.2⟩
  .have Db:decide ((W:Int)<(D:Int))=false:=decide_eq_false (by omega);have Ck:Hid (D=W):=aD (by have:=Am.out;have:=Aw.out;omega);have Ch:=zh (vI G (.slice T τ V) (.slice Ao lb Ap) bst best (rM E.1 hn l) (by rw[q.out];exact rM Ai hn Bu));go_wp2_with fail;refine Ch.mono ?_;rintro e Dm ⟨Bp,rfl,rfl⟩;by_cases Cc:Bp<0
   .have Dc:decide (Bp<0)=true:=decide_eq_true Cc;go_wp2_with fail;refine bodyPost_end (results_none rfl _ _ _) rfl ?_;exact⟨rfl,bst,ε.out,Al.out _,p.1,p.2⟩
   .have Dc:decide (Bp<0)=false:=decide_eq_false Cc;go_wp2_with fail;refine bodyPost_end (results_none rfl _ _ _) rfl ?_;exact⟨rfl,best,Bt.out,Br.out,fun m h=>h,fun _=>⟨Ce.out,by rw[<-Ci.out,Ck.out];exact Nat.le_refl _⟩⟩
end Go.Proofs.YtpfhoemohibniaaGreatDoor
namespace Go.Proofs.YtpfhoemohibniaaGreatDoor
open Go.RowKit Go.ChangeMaps
theorem NG{w:World}{cs:List Value}(h:BD w cs):∃A B c C,cs=XBk eF (.slice A 2 c)/\RG 5 w (.slice A 2 c) [XBk lA (.slice B 1 C),gB 3]/\RG 5 w (.slice B 1 C) [gB 2]:=by
 obtain⟨A,c,rfl,D,I,K,F⟩:=h;have N:gfX w (D.getD 0 []):=F 0 (by decide);have O:D.getD 1 []=gB 3:=F 1 (by decide);obtain⟨B,C,G,E,J,L,M⟩:=N;have P:E.getD 0 []=gB 2:=M 0 (by decide);have e:D=[XBk lA (.slice B 1 C),gB 3]:=by
  match D,I with
  |[x,y],_=>rw[<-G,<-O];rfl
 have H:E=[gB 2]:=by
  match E,J with
  |[x],_=>rw[<-P];rfl
 subst e H;exact⟨A,B,c,C,rfl,K,L⟩
theorem WQ{w:World}{A B:Option Addr}{c C:Nat}(h:RG 5 w (.slice A 2 c) [XBk lA (.slice B 1 C),gB 3])(D:RG 5 w (.slice B 1 C) [gB 2]):BD w (XBk eF (.slice A 2 c)):=
 ⟨A,c,rfl,_,rfl,h,fun j E=>by
   rcases(by omega:j=0\/j=1) with rfl|rfl
   . exact ⟨B, C, rfl, _, rfl, D, fun j E => by
       obtain rfl:j=0:=by omega
       rfl⟩
   . rfl⟩
theorem I1(w:World)(A O:Option Addr)(c L:Nat)(n:RG 5 w (.slice A 2 c) [XBk lA (.slice O 1 L),gB 3])(p:RG 5 w (.slice O 1 L) [gB 2])(Mod:LI)(N:Int)(D:LL)
  (g:∀w',Below w.heap.size w w'->Calls Tryz.prog 204 #[.agg #[.int .i64 2,.int .i64 1,.slice none 0 0],.int .i64 3] w' (gO w' 2 1 Mod N D 0)):
  Calls Tryz.prog 35 #[.agg #[.int .i64 3,.string eF,.int .i64 0,.slice none 0 0,.slice A 2 c],.bool false] w (WH w 2 1 Mod N D 0):=by
 obtain⟨w0,M,P,Q,hb⟩:=mI w 43 80 (XBk eF (.slice A 2 c)) (gS 0);unfold gS vK at Q M;unfold XBk at P M;have W:=n.below hb zr;have X:=p.below hb zr;have l:=MQ w0 _ _ _ _ _ (WQ W X);have q:=zh l;have ε:=zh W;have y:=zh X;have r:=zh (fun w' (Z:Below w0.heap.size w0 w')=>g w' (aA hb Z));have E:=zh P;have T:=zh Q;have d:=zh hb;have J:Hid (∀B,Below w0.heap.size w0 B->B.cell? ⟨w.heap.size,0,none⟩=some (.int .i64 3)/\B.cell? ⟨w.heap.size,1,none⟩=some (.string eF)/\B.cell? ⟨w.heap.size,2,none⟩=some (.int .i64 0)/\B.cell? ⟨w.heap.size,3,none⟩=some (.slice none 0 0)/\B.cell? ⟨w.heap.size,4,none⟩=some (.slice A 2 c)):=aD fun B hb=>⟨aE hb (E.cell 0),aE hb (E.cell 1),aE hb (E.cell 2),aE hb (E.cell 3),aE hb (E.cell 4)⟩
 obtain⟨η,θ,ι,κ,μ⟩:=J.out w0 (bE w0);clear n p g P Q hb W X l;go_enter Tryz.func35,Tryz.ntmps35;go_upto_region 1 with fail;try rw[M]
 clear M;go_wp2_with fail;refine q.mono ?_;rintro e w1 ⟨rfl,h⟩;have s:=zh h;clear h η θ ι κ μ;go_upto_region 4 with fail;have f:=zh (aA s (aH w1));refine aG.start (S:=fun B=>B.cell? ⟨w.heap.size,0,none⟩=some (.int .i64 3)/\B.cell? ⟨w.heap.size,1,none⟩=some (.string eF)/\B.cell? ⟨w.heap.size,2,none⟩=some (.int .i64 0)/\B.cell? ⟨w.heap.size,3,none⟩=some (.slice none 0 0)/\B.cell? ⟨w.heap.size,4,none⟩=some (.slice A 2 c)) (by kernel_rfl) (J _ f) (fun C=>?_);change aG _ _ _ _ 9 _ _ _;refine tq 2 ?_;refine tq 3 ?_;try simp only[tz]
 refine aG.only (i:=0) (by kernel_rfl) rfl (fun K hK=>?_);go_simp;refine(PE _).mono ?_;rintro e w2 ⟨ζ,rfl,π,m,j⟩;have F:=zh (aA f j);have x:=zh m;clear j π m;refine hK.out _ _ (J _ F) ?_;clear hK K C;intro C;try simp only[tz]
 refine tq 1 ?_;try simp only[tz]
 refine aG.only (i:=4) (by kernel_rfl) rfl (fun K hK=>?_);go_simp;refine(MS w2 ζ A O c L x (ε.below F zr) (y.below F zr) Mod N D (fun w' Z=>r.out w' (aA F Z))).mono ?_;rintro e Ae ⟨u,gv,rfl,Y,k⟩;obtain⟨⟨U,a,rfl,_⟩,⟨R,V,rfl,_⟩⟩:=Y.out;have z:Hid (Sep w2.heap.size Ae fun w2=>SI w2 (.slice U Mod.length a) Mod/\SS w2 (.slice R D.length V) D):=aD Y;have G:=zh (aA F k);have ρ:w.heap.size+1<w2.heap.size:=aY1 T.lt F.size;clear k Y;refine hK.out _ _ (J _ G) ?_;clear hK K C;intro C;try simp only[tz]
 refine tq 5 ?_;refine tq 6 ?_;try simp only[tz]
 refine aG.only (i:=7) (o:=?op1) (by kernel_rfl) ?ho1 (fun K hK=>?_)
 case ho1=>(conv=>lhs;simp only[tdg,tdh,tdi])
 obtain⟨Af,L,Ag,Ah,Ai,Aj,Ak,Al,Am,An,Ao,Ap,Aq,Ar,As,At,Au,Av,Aw,Ax⟩:=(T.belowS G).ten;go_simp;obtain⟨Ay,ν,I⟩:=wY (x0:=.int .i64 0) (x1:=.int .i64 0) (x2:=.slice none 0 0) (x3:=.int .i64 2) (x4:=.int .i64 1) (x5:=.slice U Mod.length a) (x6:=.int .i64 N) (x7:=.slice R D.length V) (x8:=.int .i64 0) (x9:=.slice none 0 0) (T.belowS G);rw[ν];have t:=zh (I.below (aA d G) (aA d G).size (Nat.le_succ _));have δ:=zh (z.grown I.gr (by rintro b e;cases e;exact ρ));have H:=zh ((E.belowS G).grown I.gr (fun e=>by have:=aZ0 e;omega));obtain⟨σ,τ,φ,χ,ψ,ω,Aa,Ab,Ac,Ad,_,_,_,_,_,_,_,_,_,_⟩:=I.blk.ten;refine hK.out _ _ (⟨H.cell 0,H.cell 1,H.cell 2,H.cell 3,H.cell 4⟩) ?_;clear hK K C;intro C;try simp only[tz]
 refine aG.only (i:=8) (by kernel_rfl) rfl (fun K hK=>?_);go_simp;refine hK.out _ _ C (fun ξ=>?_);clear hK K;clear ξ;refine aG.done (by kernel_rfl) ?_;try simp only[tz]
 clear C;go_wp2_with fail;refine bodyPost_ret (v:=.tuple #[.agg #[.int .i64 0,.int .i64 0,.slice none 0 0,.int .i64 2,.int .i64 1,.slice U Mod.length a,.int .i64 N,.slice R D.length V,.int .i64 0,.slice none 0 0],.int .i64 0]) (by simp[results,Tryz.results35,go_sem,σ,τ,φ,χ,ψ,ω,Aa,Ab,Ac,Ad]) rfl ?_;exact⟨_,_,rfl,δ.mono (by omega),t.out⟩
theorem QM(w:World)(a b c d f:Value)(h:BD w [a,b,c,d,f])(Mod:LI)(N:Int)(D:LL)
  (V:∀w',Below w.heap.size w w'->Calls Tryz.prog 204 #[.agg #[.int .i64 2,.int .i64 1,.slice none 0 0],.int .i64 3] w' (gO w' 2 1 Mod N D 0)):
  Calls Tryz.prog 12 #[.agg #[a,b,c,d,f]] w (gO w 2 1 Mod N D 0):=by
 obtain⟨A,Y,L,c1,e,X,E⟩:=NG h;obtain⟨rfl,rfl,rfl,rfl,rfl⟩:a=.int .i64 3/\b=.string eF/\c=.int .i64 0/\d=.slice none 0 0/\f=.slice A 2 L:=by simpa[XBk] using e
 obtain⟨w0,M,K,P,hb⟩:=mI w 43 27 (XBk eF (.slice A 2 L)) [.int .i64 0,.int .i64 0,.slice none 0 0,.int .i64 0,.slice none 0 0];unfold XBk at K M;have g:=zh (I1 w0 A Y L c1 (X.below hb zr) (E.below hb zr) Mod N D (fun w' I=>V w' (aA hb I)));have Q:=zh P;have Z:=zh hb;obtain⟨l,m,n,o,p,_,_,_,_,_⟩:=K.five;clear h X E V K P hb e;go_enter Tryz.func12,Tryz.ntmps12;go_upto_region 1 with fail;try rw[M]
 clear M;go_wp2_with fail;refine g.mono ?_;rintro e w1 ⟨u,gv,rfl,E,W⟩;obtain⟨⟨G,J,rfl,_⟩,⟨F,H,rfl,_⟩⟩:=E.out;have j:Hid (Sep w0.heap.size w1 fun w2=>SI w2 (.slice G Mod.length J) Mod/\SS w2 (.slice F D.length H) D):=aD E;have i:=zh W;clear W E l m n o p;go_upto_region 2 with fail;obtain⟨w2,τ,T,U,C,O⟩:=bB w1 80 [.int .i64 0,.int .i64 0,.slice none 0 0,.int .i64 2,.int .i64 1,.slice G Mod.length J,.int .i64 N,.slice F D.length H,.int .i64 0,.slice none 0 0];rw[T,U];have k:=zh (j.on O);have S:=zh (aA i O);have R:=zh (Q.belowS S);have r:w.heap.size+1<w0.heap.size:=Q.lt;have η:=C.cell 3;have θ:=C.cell 4;have ι:=C.cell 5;have κ:=C.cell 6;have μ:=C.cell 7;simp only[List.getElem?_cons_zero,List.getElem?_cons_succ] at η θ ι κ μ;clear T U C O;obtain⟨χ,ψ,ω,Aa,Ab,ν,ξ,π,ρ,σ⟩:=R.five;go_wp2_with fail;obtain⟨φ,q,B⟩:=uP (x:=.int .i64 2) (y:=.int .i64 1) (z:=.slice G Mod.length J) (u:=.int .i64 N) (v:=.slice F D.length H) R.out;rw[q];have s:=B.c0;have t:=B.c1;have δ:=B.c2;have ε:=B.c3;have ζ:=B.c4;refine bodyPost_ret (v:=.tuple #[.agg #[.int .i64 2,.int .i64 1,.slice G Mod.length J,.int .i64 N,.slice F D.length H],.int .i64 0]) (by simp[results,Tryz.results12,go_sem,s,t,δ,ε,ζ]) rfl ?_;have I:=aA Z.out S.out;exact⟨_,_,rfl,(k.grown B.gr (by rintro b e;cases e;exact r)).mono (by omega),B.below I I.size (by omega)⟩
end Go.Proofs.YtpfhoemohibniaaGreatDoor
namespace Go.Proofs.YtpfhoemohibniaaGreatDoor
open Go.RowKit
theorem XZ(w:World)(a b c d f:Value)(h:BD w [a,b,c,d,f]):Calls Tryz.prog 12 #[.agg #[a,b,c,d,f]] w (gO w 2 1 [] 7 kO 0):=QM w a b c d f h [] 7 kO fun w' _=>YN w'
end Go.Proofs.YtpfhoemohibniaaGreatDoor
