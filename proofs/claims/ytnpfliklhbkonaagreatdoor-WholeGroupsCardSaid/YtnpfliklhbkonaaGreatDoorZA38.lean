/- Parts. -/
import Derived.Test.YtnpfliklhbkonaaGreatDoorZA29
import Derived.Test.YtnpfliklhbkonaaGreatDoorZA36
set_option maxRecDepth 99999
set_option maxHeartbeats 0
namespace Go.Proofs.YtnpfliklhbkonaaGreatDoor
open Go.Proofs.Tryz
section
open Go.RowKit
theorem VZ(w:Wo)(x y:Int):Calls prog 349 #[x,y] w (fun e w'=>∃z,e=.returned (.int .i64 z)/\w=w'):=by
 go_enter func349,ntmps349;go_wp2_with fail;apply(zK _ x).mono;rintro e w1⟨rfl,rfl⟩;go_wp2_with fail;apply(zK _ y).mono;rintro e w1⟨rfl,rfl⟩;go_wp2_with fail
 all_goals (go_ret;exact⟨_,rfl,rfl⟩)
theorem IT(w:Wo)(u v:Va)(xs ys:LI)(C:SI w u xs)(D:SI w v ys):Calls prog 260 #[u,v] w (fun e w'=>∃z,e=.returned (.int .i64 z)/\w=w'):=by
 obtain⟨A,c,rfl,C⟩:=C;obtain⟨B,d,rfl,D⟩:=D;have hn:=C.len;have N:=D.len;have J:=zh C;have K:=zh D;obtain⟨n,F⟩:=xE xs.length;obtain⟨m,E⟩:=xE ys.length;have I:=zh F;have H:=zh E;rw[<-F] at hn|-;rw[<-E] at N|-;clear C D F E;go_enter func260,ntmps260;go_wp2;go_loopw [11] (fun i wr=>∃k:Nat,k<=n/\i=(k:aV)/\w=wr) (fun i _=>n-(intOf i).toNat)
 .exact⟨0,aZ5 _,rfl,rfl⟩
 .
  obtain⟨k,hk,rfl,rfl⟩:=hrel;by_cases M:k<n
  .obtain⟨O,x,rfl,Q,_,_⟩:=J.elt (k:=k) (I.out▸M);by_cases L:k<m
   .obtain⟨P,y,rfl,R,_,_⟩:=K.elt (k:=k) (H.out▸L);go_wp2_with fail;apply(VZ w x y).mono;rintro e w1⟨z,rfl,rfl⟩;by_cases G:z=0
    .subst G;go_wp2;exact⟨⟨k+1,om,pC,trivial⟩,oI⟩
    .have U:(z !=0)=true:=by rw[eC];exact G
     go_wp2;go_ret;exact⟨_,rfl,rfl⟩
   .have S:m<=k:=om
    go_wp2;go_ret;exact⟨_,rfl,rfl⟩
  .obtain rfl:n=k:=om;by_cases T:n<m
   all_goals
    go_wp2;go_ret;exact⟨_,rfl,rfl⟩
def OG(O:aQ)(q:Int)(n:Nat)(gen:LL)(best:LI):Prop:=
 best=[]\/(best=n/\(∀j,0<=best j 0/\best j 0<q)/\aZ O gen (fun j=>best j 0)/\cG (fun j=>best j 0) n≠0)
def BdW(n:Nat)(best:LI)(m:Nat):Prop:=best≠[]/\cG (fun j=>best j 0) n<=m
structure SrS(O:aQ)(q:Int)(n:Nat)(gen:LL)(a sb:Nat)(P M N:Int)(mv gv sv:Va)(wr:Wo)(best:LI)(k:Nat):Prop where
 blk:∃A c,Blk wr sb 151 [.pointer a,(P:aV),(M:aV),mv,(N:aV),gv,sv,.slice A best c,(k:aV)]/\OI (sb+1) wr (.slice A best c) best
 bst:OG O q n gen best
theorem Blk.nine{w:Wo}{g:Nat}{t:TypeId}{a b c d e f h i j:Va}(A:Blk w g t [a,b,c,d,e,f,h,i,j]):
 w.cell? g=some a/\w.cell? (g 1 none)=some b/\w.cell? (g 2 none)=some c/\w.cell? (g 3 none)=some d/\w.cell? (g 4 none)=some e/\w.cell? (g 5 none)=some f/\w.cell? (g 6 none)=some h/\w.cell? (g 7 none)=some i/\w.cell? (g 8 none)=some j:=
 ⟨A.cell 0,A.cell 1,A.cell 2,A.cell 3,A.cell 4,A.cell 5,A.cell 6,A.cell 7,A.cell 8⟩
section
variable {O:aQ} {q:Int} {n:Nat} {gen:LL} {a sb:Nat} {P M N:Int} {mv gv sv:Va} {w w':Wo} {best:LI} {k:Nat}
theorem SrS.on(h:SrS O q n gen a sb P M N mv gv sv w best k)(B:Below w w w'):SrS O q n gen a sb P M N mv gv sv w' best k:=by obtain⟨A,c,C,D⟩:=h.blk;exact⟨⟨A,c,C.belowS B,D.below B zr⟩,h.bst⟩
end
theorem uI{O:aQ}{P M:Int}{n B:Nat}{gen:LL}{w:Wo}{v:Va}{best:LI}(C:OG O (aF P M) n gen best)(hn:n<=1000)(A:OI B w v best):SI w v best:=by
 have E:=aM P M;rcases C with e|⟨e,D,_⟩
 .exact A.si (by rw[e];simp) fun k=>by rw[e];exact I64.zero
 .exact A.si om fun k=>by have:=D k;exact I64.of_small om om
theorem uX{x:Nat->Int}(h:∀j,x j=0):∀{n},cG x n=0
 |0=>rfl
 |n+1=>by have A:=uX h (n:=n);unfold cG at A|-;simp only[eO,A,h n];decide
theorem UK(x:Nat->Int)(n:Nat):cG x (n+1)=cG x n+if x n≠0 then 1 else 0:=by unfold cG;simp only[eO,decide_eq_true_eq]
theorem OI.sepI{B:Nat}{w:Wo}{v:Va}{xs:LI}(h:OI B w v xs)(H:xs.length<=17592186044416)(I:∀k,I64 (xs k 0)):Sep B w fun w2=>SI w2 v xs:=fun w2 F=>by obtain⟨A,c,rfl,C⟩:=h.si H I;refine⟨A,c,rfl,C.len,C.cap,fun k hk=>?_,C.wf⟩;obtain⟨D,e,G⟩:=C.cell k hk;subst e;have E:=h.lt (g:=D.block) rfl;exact⟨D,rfl,by rw[F _ (by rw[dQ];exact E.1) (by rw[dQ];exact E.2)];exact G⟩
theorem JB {P M : Int} {Mq : LI} {n : Nat} {gen : LL} {xs : LI} (hO : (aD P M Mq).Fld (aF P M)) (H : xs.length = n) (hn : 1 <= n) (D : ∀ j, 0 <= xs j 0 /\ xs j 0 < aF P M) (K : aZ (aD P M Mq) gen (fun j => xs j 0)) {A : Nat} (hk : A < n) (F : xs A 0 ≠ 0) :
 OG (aD P M Mq) (aF P M) n gen (bN (aD P M Mq) ((aD P M Mq).inv (xs A 0)) xs)/\bN (aD P M Mq) ((aD P M Mq).inv (xs A 0)) xs≠[]/\
  cG (fun j=>(bN (aD P M Mq) ((aD P M Mq).inv (xs A 0)) xs).getD j 0) n=cG (fun j=>xs j 0) n/\∀j,I64 ((bN (aD P M Mq) ((aD P M Mq).inv (xs A 0)) xs).getD j 0):=by
 have L:=D A;have hi:=hO.inv_lt (xs A 0);have I:=hO.mul_inv (xs A 0) om L.2;have G:(aD P M Mq).inv (xs A 0)≠0:=fun e=>by rw[e,hO.mul_zero] at I;omega
 have N:=aM P M;have B:(bN (aD P M Mq) ((aD P M Mq).inv (xs A 0)) xs).length=n:=by rw[gL,H]
 have C:=(Rows.scale hO.lt ((aD P M Mq).inv (xs A 0)) xs).2;have E:cG (fun j=>(bN (aD P M Mq) ((aD P M Mq).inv (xs A 0)) xs).getD j 0) n=cG (fun j=>xs j 0) n:=by rw[show(fun j=>(bN (aD P M Mq) ((aD P M Mq).inv (xs A 0)) xs).getD j 0)=fun j=>(aD P M Mq).mul ((aD P M Mq).inv (xs A 0)) (xs j 0) from funext fun j=>jD hO _ _ _];exact zY hO hi G D n
 have J:cG (fun j=>xs j 0) n≠0:=by
  have key:∀m,A<m->cG (fun j=>xs j 0) m≠0:=by
   intro m
   induction m with
   |zero=>intro h;omega
   |succ m ih=>
    intro h;rw[UK];by_cases e:A=m
    .subst e;rw[iP F];omega
    .have:=ih om;omega
  exact key n hk
 refine⟨.inr ⟨B,C,(K.smul hO _).congr fun j=>by rw[jD hO],by rw[E];exact J⟩,fun e=>by rw[e] at B;simp at B;omega,E,fun j=>I64.of_small (oA (C j)) (oA (C j))⟩
theorem bn(w:Wo)(B a sb n k:Nat)(P M N:Int)(Mq:LI)(mv gv sv Cc:Va)(gen:LL)(best xs:LI)(Bv:∀z,Below B w z->GF z a P M Mq)(hB:B<=sb)(hO:(aD P M Mq).Fld (aF P M))
 (Aq:SrS (aD P M Mq) (aF P M) n gen a sb P M N mv gv sv w best k)(As:Sep (sb+1) w (fun w2=>SI w2 Cc xs))(Bg:xs=n)(hn:n<=1000)(hn1:1<=n)(Bx:∀j,0<=xs j 0/\xs j 0<aF P M)(Bz:aZ (aD P M Mq) gen (fun j=>xs j 0))(hk:k<=1000000):
 Calls prog 140 #[.pointer sb,Cc] w (fun e w'=>e=.returned (.tuple #[])/\∃Ba,SrS (aD P M Mq) (aF P M) n gen a sb P M N mv gv sv w' Ba (k+1)/\w.grownBy w' (some sb)/\(∀m,BdW n best m->BdW n Ba m)/\(cG (fun j=>xs j 0) n≠0->BdW n Ba (cG (fun j=>xs j 0) n))):=by
 obtain⟨An,Ao,Ad,Bi⟩:=Aq.blk;have Ah:=zh Aq.bst;have Cz:B<=w.heap.size:=aZ6 hB (Nat.le_of_lt Ad.lt);have Cm:=zh Bv;have Bq:=zh hO;have Cr:=zh As;have Am:=zh Bx;have Bt:=zh Bz;have A:=zh Bg;have Bo:=zh (Ad.set_ 8 (.int .i64 ((k:Int)+1)));have Ae:=aU w sb 8 (.int .i64 ((k:Int)+1));have X:=zh Ae;have φ:=zh (Bi.grown Ae (fun g h e=>by have Bu:=(Bi.lt h).1;have:=aZ0 e;omega));have I:=zh (As.grown Ae (by rintro g e;cases e;omega));obtain⟨U,ζ,η,θ,ι,κ,μ,ν,ξ⟩:=Ad.nine;have Cv:=Ad.frozen 8;obtain⟨wA,wc,rfl,_⟩:=As.out;rw[Bg] at Cr I|-;have Cx:cG (fun j=>xs j 0) n<=n:=BN _ _;have Cw:cG (fun j=>best j 0) n<=n:=BN _ _;obtain⟨W,Be⟩:=xE (cG (fun j=>xs j 0) n);have ε:=zh Be;rw[<-Be] at Cx|-;obtain⟨D,Ap⟩:=xE (cG (fun j=>best j 0) n);have Au:=zh Ap;rw[<-Ap] at Cw;have At:Hid ((best.length=0/\best=[])\/(best=n/\best≠[]/\D≠0)):=aG (by
  rcases Aq.bst with e|⟨O,_,_,π⟩
  .exact .inl ⟨by rw[e];rfl,e⟩
  .exact .inr ⟨O,(fun e=>by rw[e] at O;simp at O;omega),(by rw[Ap];exact π)⟩)
 clear Aq Ad Bi Bv hO As Bg Bx Bz Be Ap Ae;go_enter func140,ntmps140;go_upto_region 1 with fail;have Dc:w.heap.size<=(w.setCell (sb 8 none) (.int .i64 ((k:Int)+1))).heap.size:=X.size;generalize w.setCell (sb 8 none) (.int .i64 ((k:Int)+1))=w1 at*;clear U ζ η θ ι κ μ ν ξ Cv;have Aj:Hid (∀z,Below B w1 z->GF z a P M Mq):=aG fun z h=>Cm.out z (((Below.refl B w).grown X Cz (fun g e=>by cases e;exact hB)).trans h);have S:Hid (Blk w1 sb 151 [.pointer a,(P:aV),(M:aV),mv,(N:aV),gv,sv,.slice An best Ao,.int .i64 ((k+1:Nat):Int)]):=aG (by push_cast;exact Bo.out);have Ay:=zh (uI Ah hn φ);obtain⟨E,Bh⟩:=xE best.length
 have o:=zh Bh;rw[<-Bh] at S Ay At;clear Bh Bo Dc;have key:∀Ag:Nat,(Ag=0/\best=[]\/Ag≠0/\best≠[]/\Ag=cG (fun j=>best j 0) n)->(Ag<=n)->True:=fun _ _ _=>trivial;clear key;obtain⟨U,ζ,η,θ,ι,κ,μ,ν,ξ⟩:=S.nine;rcases At.out with⟨Db,ρ⟩|⟨Bw,ρ,Bc⟩
 .have Ai:Hid (E=0/\best=[]\/E≠0/\best≠[]/\E=cG (fun j=>best j 0) n):=aG (.inl ⟨om,ρ⟩);have Di:E<=n:=om;have Ca:¬0<E:=om;clear Db ρ;go_upto_region 4 with fail;go_wp2_with fail;refine(mT w1 _ xs (by rw[<-A.out] at I;rw[<-A.out];exact I.out.out) (oA A.out)).mono ?_;rintro e w2⟨rfl,rfl⟩;rw[A.out,<-ε.out];have d:Hid (SrS (aD P M Mq) (aF P M) n gen a sb P M N mv gv sv w1 best (k+1)):=aG ⟨⟨An,Ao,o.out▸S.out,φ.out⟩,Ah.out⟩;by_cases Z:W=0
  .have Bf:((W:Int)==0)=true:=by rw[eD];omega
   have p:=zh Z;clear Z;go_wp2;refine bodyPost_ret (v:=.tuple #[]) (by simp[results,results140,go_sem]) rfl ?_;exact⟨rfl,best,d.out,X.out,fun m h=>h,fun h=>aB p.out h⟩
  have Bf:((W:Int)==0)=false:=by rw[eA];omega
  have Ar:¬(0<E/\E<W):=fun h=>Ca h.1;have t:E=0\/W<=E:=om;have Da:(decide (0<(E:Int))&&decide ((E:Int)<(W:Int)))=false:=by
   rcases t with e|e
   .rw[dG (by omega:¬0<(E:Int))];rfl
   .rw[dG (by omega:¬(E:Int)<(W:Int)),Bool.and_false]
  have Al:=zh t;have p:=zh Z;clear t Ar Z;go_wp2_with fail;refine(CT w1 (.slice wA n wc) xs (by rw[<-A.out] at I;rw[<-A.out];exact I.out.out)).mono ?_;rintro e w2⟨Df,rfl,Bj,rfl⟩;rcases Bj with⟨x,s,rfl,c,_⟩|⟨_,Bk⟩;rotate_left
  .exact aB (ε.trans (uX fun j=>Bk j)) p.out
  rw[A.out] at s;obtain⟨F,J⟩:=xE (xs x 0);rw[<-J] at c;have C:=zh (JB Bq A hn1 Am Bt s (by rw[<-J];exact c));rw[<-J] at C;have Ax:Hid (inQ (aF P M) F≠0):=aG (by unfold inQ;have:=Am.out x;rw[<-J] at this;rw[iP this];exact c);obtain⟨Cd,c',ω,Aa⟩:=I.out.out;rw[A.out] at ω;injection ω with O π e3;subst O;obtain⟨Cs,Bm,rfl,q,_,χ⟩:=Aa.elt (k:=x) (A.out▸s);obtain rfl:F=Bm:=by rw[J];exact χ.out
  clear Aa χ J c π e3;go_upto_region 7 with fail;refine tb 14 U q fun Y=>?_;refine tq 0 ?_;refine tq 1 ?_;refine tq 2 ?_;refine tq 3 ?_;refine tq 4 ?_;refine tq 5 ?_;refine tq 6 ?_;refine tq 7 ?_;try simp only[tz]
  refine tn 8 fun K hK=>?_;go_simp;apply(qJ _ a P M F Mq (Aj _ ((Below.refl B w1).drew)) Ax).mono;rintro e Bl⟨rfl,Ab⟩;have G:=zh (aC (aI w1) Ab);have b4:=aE G.out U;have ψ:=aE G.out q;clear Ab;refine hK.out _ _ (⟨b4,ψ⟩) ?_;clear hK K Y;intro Y;try simp only[tz]
  refine tq 9 ?_;refine tq 10 ?_;refine tq 11 ?_;refine tq 12 ?_;try simp only[tz]
  refine tn 13 fun K hK=>?_;go_simp;refine hK.out _ _ Y fun _=>?_;refine tw ?_;try simp only[tz]
  clear Y;have Bb:B<=w1.heap.size:=aZ6 hB (Nat.le_of_lt S.lt);have Aw:=zh (Aj _ (G.mono Bb));have Az:=zh ((I.on G).out);have Cq:=zh (d.on G);obtain⟨R,r⟩:=xE (lY P M Mq F);rw[<-r];have τ:Hid (R=(aD P M Mq).inv F):=aG r;clear r U ζ η θ ι κ μ ν ξ q ψ;go_wp2_with fail;apply(oK Bl a P M R Mq xs _ Aw Az (oA A.out)).mono;rintro e H⟨u,rfl,Q,Ac⟩;obtain⟨T,V,rfl⟩:=Q.form';rw[τ.out] at Q;obtain⟨bst,b⟩:=xE (bN (aD P M Mq) ((aD P M Mq).inv F) xs);rw[<-b] at Q C;rw[show(bN (aD P M Mq) R xs).length=bst.length by rw[b,τ.out]];have Cf:=zh b;clear b;have Co:Hid (bst=n):=aG (by rcases C.1 with e|⟨e,_⟩;exact aB e C.2.1;exact e);have L:=zh (aC G Ac);have f:Hid (OI (sb+1) H (.slice T bst V) bst):=aG (Q.mono (aZ6 (Nat.succ_le_of_lt S.lt) G.size));have i:=zh (S.belowS L);have Bs:=zh (φ.below L zr);have Ak:Hid (∀y,w.grownBy (H.setCell (sb 7 none) y) (some sb)):=aG fun y=>bB (bB X (aP L _)) (aU H sb 7 y);have Bp:Hid (w.grownBy H (some sb)):=aG (bB X (aP L _));have Br:=zh (d.on L);have δ:Hid (SrS (aD P M Mq) (aF P M) n gen a sb P M N mv gv sv (H.setCell (sb 7 none) (.slice T bst V)) bst (k+1)):=aG ⟨⟨T,V,i.set_ 7 (.slice T bst V),f.grown (aU H sb 7 _) (fun g h e=>by have Bu:=(f.lt h).1;have:=aZ0 e;omega)⟩,C.1⟩;have l:Hid ((∀m,BdW n best m->BdW n bst m)/\(W≠0->BdW n bst W)):=aG (by
   have O:cG (fun j=>bst j 0) n=W:=by rw[C.out.2.2.1,ε.out]
   refine⟨fun m h=>⟨C.2.1,?_⟩,fun _=>⟨C.2.1,om⟩⟩;rcases Ai.out with⟨_,e⟩|⟨Ct,_,e⟩
   .exact aB e h.1
   .have:=h.2;have:=Al.out;omega)
  clear Q Ac;obtain⟨U,ζ,η,θ,ι,κ,μ,ν,ξ⟩:=i.nine;have Cu:=i.frozen 7;obtain⟨σ,Af⟩:=xE bst.length;rw[<-Af] at δ f|-;clear Af
  .have Cy:((E:Int)==0)=true:=by rw[eD];omega
   go_wp2;refine bodyPost_end (results_none rfl _ _ _) rfl ?_;exact⟨rfl,bst,δ.out,Ak.out _,l.1,l.2⟩
 .have Ai:Hid (D=0/\best=[]\/D≠0/\best≠[]/\D=cG (fun j=>best j 0) n):=aG (.inr ⟨Bc,ρ,Au.out⟩);have Ca:0<E:=om;have Cp:=zh Bw;have Cj:=Au;have Av:=zh Bc;have Ce:=zh ρ;clear Bw ρ Bc;go_wp2_with fail;refine(mT w1 _ best (by rw[o.out] at Ay;rw[o.out];exact Ay.out) (by rw[<-o.out];have:=At.out;omega)).mono ?_;rintro e w2⟨rfl,rfl⟩;rw[<-o.out,Cp.out,<-Au.out];go_upto_region 4 with fail;go_wp2_with fail;refine(mT w1 _ xs (by rw[<-A.out] at I;rw[<-A.out];exact I.out.out) (oA A.out)).mono ?_;rintro e w2⟨rfl,rfl⟩;rw[A.out,<-ε.out];have d:Hid (SrS (aD P M Mq) (aF P M) n gen a sb P M N mv gv sv w1 best (k+1)):=aG ⟨⟨An,Ao,o.out▸S.out,φ.out⟩,Ah.out⟩;by_cases Z:W=0
  .have Bf:((W:Int)==0)=true:=by rw[eD];omega
   have p:=zh Z;clear Z;go_wp2;refine bodyPost_ret (v:=.tuple #[]) (by simp[results,results140,go_sem]) rfl ?_;exact⟨rfl,best,d.out,X.out,fun m h=>h,fun h=>aB p.out h⟩
  have Bf:((W:Int)==0)=false:=by rw[eA];omega
  by_cases Ar:0<D/\D<W
  .obtain⟨Ae,Dl⟩:=Ar;have Ck:Hid (BdW n best W):=aG (by
    rcases Ai.out with⟨e,_⟩|⟨_,O,π⟩
    .omega
    .exact⟨O,om⟩)
   have Dj:decide (0<(D:Int))=true:=dE om;have Dk:decide ((D:Int)<(W:Int))=true:=dE om;go_wp2;refine bodyPost_ret (v:=.tuple #[]) (by simp[results,results140,go_sem]) rfl ?_;exact⟨rfl,best,d.out,X.out,fun m h=>h,fun _=>Ck.out⟩
  have t:D=0\/W<=D:=om;have Da:(decide (0<(D:Int))&&decide ((D:Int)<(W:Int)))=false:=by
   rcases t with e|e
   .rw[dG (by omega:¬0<(D:Int))];rfl
   .rw[dG (by omega:¬(D:Int)<(W:Int)),Bool.and_false]
  have Al:=zh t;have Dg:0<D:=Nat.pos_of_ne_zero Av.out;have Dh:W<=D:=om;have p:=zh Z;clear t Ar Z;go_wp2_with fail;refine(CT w1 (.slice wA n wc) xs (by rw[<-A.out] at I;rw[<-A.out];exact I.out.out)).mono ?_;rintro e w2⟨Df,rfl,Bj,rfl⟩;rcases Bj with⟨x,s,rfl,c,_⟩|⟨_,Bk⟩;rotate_left
  .exact aB (ε.trans (uX fun j=>Bk j)) p.out
  rw[A.out] at s;obtain⟨F,J⟩:=xE (xs x 0);rw[<-J] at c;have C:=zh (JB Bq A hn1 Am Bt s (by rw[<-J];exact c));rw[<-J] at C;have Ax:Hid (inQ (aF P M) F≠0):=aG (by unfold inQ;have:=Am.out x;rw[<-J] at this;rw[iP this];exact c);obtain⟨Cd,c',ω,Aa⟩:=I.out.out;rw[A.out] at ω;injection ω with O π e3;subst O;obtain⟨Cs,Bm,rfl,q,_,χ⟩:=Aa.elt (k:=x) (A.out▸s);obtain rfl:F=Bm:=by rw[J];exact χ.out
  clear Aa χ J c π e3;go_upto_region 7 with fail;refine tb 14 U q fun Y=>?_;refine tq 0 ?_;refine tq 1 ?_;refine tq 2 ?_;refine tq 3 ?_;refine tq 4 ?_;refine tq 5 ?_;refine tq 6 ?_;refine tq 7 ?_;try simp only[tz]
  refine tn 8 fun K hK=>?_;go_simp;apply(qJ _ a P M F Mq (Aj _ ((Below.refl B w1).drew)) Ax).mono;rintro e Bl⟨rfl,Ab⟩;have G:=zh (aC (aI w1) Ab);have b4:=aE G.out U;have ψ:=aE G.out q;clear Ab;refine hK.out _ _ (⟨b4,ψ⟩) ?_;clear hK K Y;intro Y;try simp only[tz]
  refine tq 9 ?_;refine tq 10 ?_;refine tq 11 ?_;refine tq 12 ?_;try simp only[tz]
  refine tn 13 fun K hK=>?_;go_simp;refine hK.out _ _ Y fun _=>?_;refine tw ?_;try simp only[tz]
  clear Y;have Bb:B<=w1.heap.size:=aZ6 hB (Nat.le_of_lt S.lt);have Aw:=zh (Aj _ (G.mono Bb));have Az:=zh ((I.on G).out);have Cq:=zh (d.on G);obtain⟨R,r⟩:=xE (lY P M Mq F);rw[<-r];have τ:Hid (R=(aD P M Mq).inv F):=aG r;clear r U ζ η θ ι κ μ ν ξ q ψ;go_wp2_with fail;apply(oK Bl a P M R Mq xs _ Aw Az (oA A.out)).mono;rintro e H⟨u,rfl,Q,Ac⟩;obtain⟨T,V,rfl⟩:=Q.form';rw[τ.out] at Q;obtain⟨bst,b⟩:=xE (bN (aD P M Mq) ((aD P M Mq).inv F) xs);rw[<-b] at Q C;rw[show(bN (aD P M Mq) R xs).length=bst.length by rw[b,τ.out]];have Cf:=zh b;clear b;have Co:Hid (bst=n):=aG (by rcases C.1 with e|⟨e,_⟩;exact aB e C.2.1;exact e);have L:=zh (aC G Ac);have f:Hid (OI (sb+1) H (.slice T bst V) bst):=aG (Q.mono (aZ6 (Nat.succ_le_of_lt S.lt) G.size));have i:=zh (S.belowS L);have Bs:=zh (φ.below L zr);have Ak:Hid (∀y,w.grownBy (H.setCell (sb 7 none) y) (some sb)):=aG fun y=>bB (bB X (aP L _)) (aU H sb 7 y);have Bp:Hid (w.grownBy H (some sb)):=aG (bB X (aP L _));have Br:=zh (d.on L);have δ:Hid (SrS (aD P M Mq) (aF P M) n gen a sb P M N mv gv sv (H.setCell (sb 7 none) (.slice T bst V)) bst (k+1)):=aG ⟨⟨T,V,i.set_ 7 (.slice T bst V),f.grown (aU H sb 7 _) (fun g h e=>by have Bu:=(f.lt h).1;have:=aZ0 e;omega)⟩,C.1⟩;have l:Hid ((∀m,BdW n best m->BdW n bst m)/\(W≠0->BdW n bst W)):=aG (by
   have O:cG (fun j=>bst j 0) n=W:=by rw[C.out.2.2.1,ε.out]
   refine⟨fun m h=>⟨C.2.1,?_⟩,fun _=>⟨C.2.1,om⟩⟩;rcases Ai.out with⟨_,e⟩|⟨Ct,_,e⟩
   .exact aB e h.1
   .have:=h.2;have:=Al.out;omega)
  clear Q Ac;obtain⟨U,ζ,η,θ,ι,κ,μ,ν,ξ⟩:=i.nine;have Cu:=i.frozen 7;obtain⟨σ,Af⟩:=xE bst.length;rw[<-Af] at δ f|-;clear Af;have Cy:((D:Int)==0)=false:=by rw[eA];have:=Av.out;omega
  by_cases Dm:W<D
  .have Dd:decide ((W:Int)<(D:Int))=true:=dE om;go_wp2;refine bodyPost_end (results_none rfl _ _ _) rfl ?_;exact⟨rfl,bst,δ.out,Ak.out _,l.1,l.2⟩
  .have Dd:decide ((W:Int)<(D:Int))=false:=dG om;have Cl:Hid (D=W):=aG (oB Al.out Av.out);have Ci:=zh (IT H (.slice T σ V) (.slice An E Ao) bst best (uI C.1 hn f) (o.out▸uI Ah hn Bs));go_wp2_with fail;apply Ci.mono;rintro e Dn⟨Bn,rfl,rfl⟩;by_cases Cb:Bn<0
   .have De:decide (Bn<0)=true:=dE Cb;go_wp2;refine bodyPost_end (results_none rfl _ _ _) rfl ?_;exact⟨rfl,bst,δ.out,Ak.out _,l.1,l.2⟩
   .have De:decide (Bn<0)=false:=dG Cb;go_wp2;refine bodyPost_end (results_none rfl _ _ _) rfl ?_;exact⟨rfl,best,Br.out,Bp.out,fun m h=>h,fun _=>⟨Ce.out,by rw[<-Cj.out,Cl.out];exact zr⟩⟩
