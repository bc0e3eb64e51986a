/- Texts of a claim, merged. -/
import Derived.Test.YtpfhoemohibniaaGreatDoorZA42
set_option maxRecDepth 100000
set_option linter.unusedSimpArgs false
set_option linter.unusedVariables false
set_option maxHeartbeats 32000000
namespace Go.Proofs.YtpfhoemohibniaaGreatDoor
open Go.RowKit
theorem OG(w:World)(x:Int)(B:0<=x):Calls Tryz.prog 181 #[.int .i64 x] w (fun e w'=>e=.returned (.bool false)/\w=w'):=by have A:decide (x<0)=false:=decide_eq_false (by omega);go_enter Tryz.func181,Tryz.ntmps181;go_wp2_with fail;go_ret;exact⟨rfl,rfl⟩
theorem RE(w:World)(v:Value)(xs:LI)(B:SI w v xs)(C:∀k,0<=xs.getD k 0):Calls Tryz.prog 159 #[v,.func (.func 181) #[] #[]] w (fun e w'=>e=.returned (.int .i64 (-1))/\w=w'):=by
 obtain⟨A,c,rfl,B⟩:=B;have hn:=B.len;have E:=zh B;have D:=zh C;clear B C;go_enter Tryz.func159,Tryz.ntmps159;go_wp2_with fail;go_loopw [8] (fun i wr=>∃k:Nat,k<=xs.length/\i=.int .i64 (k:Int)/\w=wr) (fun i _=>xs.length-(intOf i).toNat)
 case atStart=>exact⟨0,aZ5 _,rfl,rfl⟩
 case round=>
  obtain⟨k,K,rfl,rfl⟩:=hrel;by_cases G:k<xs.length
  .obtain⟨I,x,rfl,J,_,F⟩:=E.elt G;have H:0<=x:=by rw[<-F.out];exact D.out k
   go_wp2_with fail;refine(OG w x H).mono ?_;rintro e w1 ⟨rfl,rfl⟩;go_wp2_with fail;exact⟨⟨k+1,by omega,by push_cast;rfl,trivial⟩,by simp only[intOf];omega⟩
  .obtain rfl:k=xs.length:=by omega
   go_wp2_with fail;go_ret;exact⟨rfl,rfl⟩
theorem QI(w:World)(v:Value)(xs:LI)(C:SI w v xs)(B:∀k,0<=xs.getD k 0):Calls Tryz.prog 96 #[v,.func (.func 181) #[] #[]] w (fun e w'=>e=.returned (.bool false)/\w=w'):=by have D:=zh (RE w v xs C B);obtain⟨A,c,rfl,_⟩:=C;clear B;go_enter Tryz.func96,Tryz.ntmps96;go_wp2_with fail;refine D.mono ?_;rintro e w1 ⟨rfl,rfl⟩;go_wp2_with fail;go_ret;exact⟨rfl,rfl⟩
def EN(f:Nat->Nat):Nat->Nat
 |0=>1
 |k+1=>EN f k*f k
theorem OE{f:Nat->Nat}(h:∀k,1<=f k):∀{k m},k<=m->EN f k<=EN f m:=by
 intro k m A;obtain⟨d,rfl⟩:∃d,m=k+d:=⟨m-k,by omega⟩
 induction d with
 |zero=>exact Nat.le_refl _
 |succ d ih=>exact aZ6 (ih (by omega)) (Nat.le_mul_of_pos_right _ (h _))
theorem JZ(w:World)(v:Value)(xs:LI)(f:Nat->Nat)(B:Nat)(L:SI w v xs)(E:∀k,k<xs.length->xs.getD k 0=(f k:Int))(D:∀k,1<=f k)(hm:EN f xs.length<=B)(b:B<=65536):
  Calls Tryz.prog 122 #[.int .i64 (B:Int),v] w (fun e w'=>e=.returned (.tuple #[.int .i64 (EN f xs.length:Nat),.int .i64 0])/\w=w'):=by
 have R:∀k,0<=xs.getD k 0:=fun k=>by
  by_cases C:k<xs.length
  .rw[E k C];omega
  .rw[aW (by omega)];omega
 have M:=zh (QI w v xs L R);have N:=zh (cQ w v xs 0 L);have V:Hid ((xs.any fun x=>x==0)=false):=aD (by rw[List.any_eq_false];intro x g e;rw[beq_iff_eq] at e;obtain⟨j,S,rfl⟩:=List.mem_iff_getElem.1 g;have:=E j S;rw[aZ4,aZ3 S] at this;have m:=D j;simp only[Option.getD_some] at this;omega);obtain⟨A,c,rfl,J⟩:=L;have W:=zh J;have X:=zh E;have U:=zh D;have I:=zh (fun k (C:k<=xs.length)=>aZ6 (OE D C) hm);obtain⟨n,hn⟩:∃n,n=xs.length:=⟨_,rfl⟩
 have O:=zh hn;have d:=J.len;rw[<-hn] at M N I d|-;have Z:Hid (∀k,EN f (k+1)=EN f k*f k):=aD fun k=>rfl;have Y:Hid (EN f 0=1):=aD rfl;generalize hp:EN f=p at*;clear J E R D hm hn hp;go_enter Tryz.func122,Tryz.ntmps122;go_wp2_with fail;refine M.mono ?_;rintro e w1 ⟨rfl,rfl⟩;go_wp2_with fail;refine N.mono ?_;rintro e w1 ⟨rfl,rfl⟩;rw[V.out];go_wp2_with fail;go_loopw [6,19] (fun o i wr=>∃k:Nat,k<=n/\i=.int .i64 (k:Int)/\o=.int .i64 (p k:Nat)/\w=wr) (fun _ i _=>n-(intOf i).toNat)
 case atStart=>exact⟨0,aZ5 _,rfl,by rw[Y.out];rfl,rfl⟩
 case round=>
  obtain⟨k,C,rfl,rfl,rfl⟩:=hrel;obtain⟨o,F⟩:∃o,o=p k:=⟨_,rfl⟩
  have r:o<=B:=by rw[F];exact I.out k C
  have P:=zh F;rw[<-F];clear F;by_cases T:k<n
  .obtain⟨l,x,rfl,q,_,a⟩:=W.elt (k:=k) (by rw[<-O.out];exact T);obtain⟨y,G⟩:∃y,y=f k:=⟨_,rfl⟩
   have h:x=(y:Int):=by rw[<-a.out,X.out k (by rw[<-O.out];exact T),G]
   subst h;have η:1<=y:=by rw[G];exact U.out k
   obtain⟨t,K⟩:∃t,t=o*y:=⟨_,rfl⟩
   have Q:Hid (t=p (k+1)):=aD (by rw[K,P.out,G];exact(Z k).symm);have ε:t<=B:=by rw[Q.out];exact I.out (k+1) (by omega)
   have δ:(o:Int)*(y:Int)=(t:Int):=by rw[K];exact(Int.natCast_mul _ _).symm
   obtain⟨z,H⟩:∃z,z=B/y:=⟨_,rfl⟩
   have ι:(B:Int)/(y:Int)=(z:Int):=by rw[H];exact(Int.natCast_ediv _ _).symm
   have u:o<=z:=by rw[H,Nat.le_div_iff_mul_le (by omega)];omega
   have κ:z<=65536:=by rw[H];exact aZ6 (Nat.div_le_self _ _) b
   have θ:¬(y:Int)=0:=by omega
   have ζ:=IntWalk.i64_in (t:Int) (by omega);clear K G H;go_wp2_with fail;exact⟨⟨k+1,by omega,by push_cast;rfl,by rw[Q.out],trivial⟩,by simp only[intOf];omega⟩
  .obtain rfl:n=k:=by omega
   have s:¬(B:Int)<(o:Int):=by omega
   go_wp2_with fail;go_ret2;exact⟨by rw[P.out];rfl,rfl⟩
theorem UN(w:World)(k:Nat)(B:k<=1000):Calls Tryz.prog 120 #[.int .i64 1,.int .i64 (k:Int),.int .i64 65536] w (fun e w'=>e=.returned (.tuple #[.int .i64 1,.int .i64 0])/\w=w'):=by
 by_cases A:0<k
 all_goals
  go_enter Tryz.func120,Tryz.ntmps120;go_wp2_with fail;go_loopw [1,8] (fun x y wr=>x=.int .i64 (k:Int)/\y=.int .i64 1/\w=wr) (fun _ _ _=>0)
  case atStart=>exact⟨rfl,rfl,rfl⟩
  case round=>obtain⟨rfl,rfl,rfl⟩:=hrel;go_wp2_with fail;go_ret2;exact⟨rfl,rfl⟩
theorem VF(w:World)(q k:Nat)(C:1<=q)(A:q<=256)(B:k<=256)(hm:q^k<=65536):Calls Tryz.prog 120 #[.int .i64 (q:Int),.int .i64 (k:Int),.int .i64 65536] w (fun e w'=>e=.returned (.tuple #[.int .i64 (q^k:Nat),.int .i64 0])/\w=w'):=by
 by_cases e:q=1
 .subst e;rw[Nat.one_pow];exact UN w k (by omega)
 .have:=K2 w q k (by omega) A B;unfold BB xJ at this;rwa[if_pos hm,if_pos hm] at this
theorem VI(w:World)(B a sb n k C A v q Ad ξ:Nat)(P M N:Int)(Mod:LI)(mv:Value)(ρ W:Option Addr)(gen:LL)(best:LI)(y:∀π,Below B w π->GF π a P M Mod)(Ae:B<=sb)
   (ε:SrS (aB P M Mod) (aC P M) n gen a sb P M N mv (.slice ρ C Ad) (.slice W A ξ) w best k)(hq:aC P M=(q:Int))(Av:2<=q)(η:C<=10)(Ay:1<=v)(μ:v<=C)(Ai:1<=A)(Ar:A<=100)(As:k<=65536)
   (hb:A*chN C v*(q-1)^(v-1)+k<=65536)(ι:(q-1)^(v-1)<=65536):
   Calls Tryz.prog 61 #[.pointer (some ⟨sb,0,none⟩),.int .i64 (v:Int)] w (fun e w'=>∃z,e=.returned (.tuple #[.int .i64 z,.int .i64 0])/\Below w.heap.size w w'):=by
 obtain⟨Ao,Ap,O,_⟩:=ε.blk;have φ:=zh O;have Ag:B<=w.heap.size:=aZ6 Ae (Nat.le_of_lt O.lt);have ω:=zh y;obtain⟨c,F⟩:∃c,c=chN C v:=⟨_,rfl⟩
 have Aq:c<=1024:=by rw[F];exact BX η
 have Ah:1<=c:=by
   rw[F];have key:∀m l,l<=m->1<=chN m l:=by
     intro m
     induction m with
     | zero => intro l Ak; obtain rfl : l = 0 := by omega
               exact Nat.le_refl _
     |succ m ih=>
       intro l Ak;cases l with
       |zero=>exact Nat.le_refl _
       |succ l=>have:=ih l (by omega);simp only[chN];omega
   exact key C v μ
 obtain⟨p,G⟩:∃p,p=(q-1)^(v-1):=⟨_,rfl⟩
 have Al:1<=p:=by rw[G];exact Nat.pow_pos (by omega)
 have Aw:q<=256:=by have:=(aK P M).2;omega
 have ψ:Hid (∀w',Calls Tryz.prog 119 #[.int .i64 (C:Int),.int .i64 (v:Int),.int .i64 65536] w' fun e w2=>e=.returned (.tuple #[.int .i64 (c:Int),.int .i64 0])/\Below w'.heap.size w' w2):=aD fun w'=>by rw[F];exact MR w' C v η μ
 have U:Hid (∀w',Calls Tryz.prog 120 #[.int .i64 ((q-1:Nat):Int),.int .i64 ((v-1:Nat):Int),.int .i64 65536] w' (fun e w2=>e=.returned (.tuple #[.int .i64 (p:Int),.int .i64 0])/\w'=w2)):=aD fun w'=>by rw[G];exact VF w' (q-1) (v-1) (by omega) (by omega) (by omega) ι
 rw[<-F,<-G] at hb;rw[<-G] at ι;have V:Hid (∀w' u,SI w' u [(A:Int),(c:Int),(p:Int)]->Calls Tryz.prog 122 #[.int .i64 ((65536-k:Nat):Int),u] w' (fun e w2=>∃z,e=.returned (.tuple #[.int .i64 z,.int .i64 0])/\w'=w2)):=aD fun w' u Am=>by
   refine(JZ w' u _ (fun j=>if j=0 then A else if j=1 then c else p) (65536-k) Am (fun j Aj=>?_) (fun j=>?_) ?_ (by omega)).mono ?_
   . rcases j with _|_|_|j
     . rfl
     . rfl
     . rfl
     . simp at Aj;omega
   . show 1<=if j=0 then A else if j=1 then c else p;split
     . exact Ai
     . split
       . exact Ah
       . exact Al
   . show 1*A*c*p<=_;rw[Nat.one_mul];omega
   . rintro e w2 ⟨rfl,rfl⟩;exact⟨_,rfl,rfl⟩
 obtain⟨Q,κ⟩:∃Q,Q=q-1:=⟨_,rfl⟩
 obtain⟨R,ν⟩:∃R,R=v-1:=⟨_,rfl⟩
 obtain⟨E,θ⟩:∃E,E=65536-k:=⟨_,rfl⟩
 rw[<-κ,<-ν] at U;rw[<-θ] at V;have Ax:(q:Int)-1=(Q:Int):=by omega
 have Az:(v:Int)-1=(R:Int):=by omega
 have Au:(65536:Int)-(k:Int)=(E:Int):=by omega
 have At:E<=65536:=by omega
 have Ba:IntKind.i64.wrap (E:Int)=(E:Int):=IntWalk.i64_in _ (by omega);obtain⟨Z,b,d,f,g,h,H,r,I⟩:=O.nine;have Ab:=zh hq;have An:Hid (SI w (.slice none 0 0) []):=aD (SI.none_ w);clear y ε O hq hb F G κ ν θ;go_enter Tryz.func61,Tryz.ntmps61;go_wp2_with fail;refine(ψ.out w).mono ?_;rintro e w1 ⟨rfl,J⟩;have σ:=zh J;have χ:=zh (φ.belowS J);have Aa:=zh (ω.out w1 (J.mono Ag));clear J Z b d f g h H r I;obtain⟨Z,b,d,f,g,h,H,r,I⟩:=χ.nine;go_wp2_with fail;refine(lK w1 a P M Mod Aa).mono ?_;rintro e w2 ⟨rfl,rfl⟩;rw[Ab.out];go_wp2_with fail;refine(U.out w1).mono ?_;rintro e w2 ⟨rfl,rfl⟩;go_upto_region 7 with fail;refine aG.start (S:=fun w'=>w'.cell? ⟨sb,8,none⟩=some (.int .i64 (k:Int))/\w'.cell? ⟨sb,6,none⟩=some (.slice W A ξ)) (by kernel_rfl) (⟨I,H⟩) (fun D=>?_);change aG _ _ _ _ 19 _ _ _;refine tq 0 ?_;refine tq 1 ?_;refine tq 2 ?_;refine tq 3 ?_;refine tq 4 ?_;refine tq 5 ?_;refine tq 6 ?_;refine tq 7 ?_;refine tq 8 ?_;refine tq 9 ?_;refine tq 10 ?_;refine tq 11 ?_;try simp only[tz]
 refine aG.only (i:=12) (o:=?op1) (by kernel_rfl) ?ho1 (fun K hK=>?_)
 case ho1=>(conv=>lhs;simp only[tdg,tdh,tdi])
 go_simp;obtain⟨T,x,s,t,ζ,L⟩:=uV w1 3 [.int .i64 (A:Int),.int .i64 (c:Int),.int .i64 (p:Int)];rw[s,t];have τ:=zh (aA σ L);have δ:RI T x [(A:Int),(c:Int),(p:Int)]:=ζ;have Ac:Hid (SI T (.slice (some ⟨x,0,none⟩) 3 3) [(A:Int),(c:Int),(p:Int)]):=aD (δ.si (by simp) (fun j=>(by rcases j with _|_|_|j;exact I64.of_small (by show _<=(A:Int);omega) (by show(A:Int)<=_;omega);exact I64.of_small (by show _<=(c:Int);omega) (by show(c:Int)<=_;omega);exact I64.of_small (by show _<=(p:Int);omega) (by show(p:Int)<=_;omega);exact I64.zero)));have X:=aE L I;have Y:=aE L H;clear s t ζ L δ;refine hK.out _ _ (⟨X,Y⟩) ?_;clear hK K D;intro D;try simp only[tz]
 refine aG.only (i:=13) (by kernel_rfl) rfl (fun K hK=>?_);go_simp;refine(V.out T _ Ac).mono ?_;rintro e Bb ⟨z,rfl,rfl⟩;refine hK.out _ _ (⟨X,Y⟩) ?_;clear hK K D;intro D;try simp only[tz]
 refine tq 14 ?_;refine tq 15 ?_;refine tq 16 ?_;refine tq 17 ?_;try simp only[tz]
 refine aG.only (i:=18) (by kernel_rfl) rfl (fun K hK=>?_);go_simp;refine hK.out _ _ D (fun Af=>?_);clear hK K;clear Af;refine aG.done (by kernel_rfl) ?_;try simp only[tz]
 clear D;go_wp2_with fail;go_ret2;exact⟨_,rfl,τ.out⟩
def Btw(lo hi:Nat)(w:World)(Φ:World->Prop):Prop:=hi<=w.heap.size/\∀w2:World,(∀p:Addr,lo<=p.block->p.block<hi->w2.cell? p=w.cell? p)->Φ w2
section
variable {lo hi:Nat} {w w':World} {Φ:World->Prop}
theorem Btw.of_sep(h:Sep lo w Φ):Btw lo w.heap.size w Φ:=⟨Nat.le_refl _,h⟩
theorem Btw.keep(h:Btw lo hi w Φ)(E:w.heap.size<=w'.heap.size)(D:∀p:Addr,lo<=p.block->p.block<hi->w'.cell? p=w.cell? p):Btw lo hi w' Φ:=
 ⟨aZ6 h.1 E,fun w2 C=>h.2 w2 fun p A B=>(C p A B).trans (D p A B)⟩
theorem Btw.on(h:Btw lo hi w Φ)(hb:Below w.heap.size w w'):Btw lo hi w' Φ:=h.keep hb.size fun p _ A=>hb.cell (aY1 A h.1)
theorem Btw.grown{row:Option Nat}(h:Btw lo hi w Φ)(hg:w.grownBy w' row)(B:∀g,row=some g->g<lo\/hi<=g):Btw lo hi w' Φ:=h.keep hg.size fun p C A=>World.cell?_of_block (w:=w) (hg.block _ (aY1 A h.1) fun e=>by have:=B _ e.symm;omega)
theorem Btw.sep{B:Nat}(h:Btw lo hi w Φ)(hB:B<=lo):Sep B w Φ:=fun w2 A=>h.2 w2 fun p C D=>A p (aZ6 hB C) (aY1 D h.1)
end
def E1(O:aO)(q:Int)(n:Nat)(Gs:List (LL))(v:Nat)(best:LI):Prop:=
 ∀j,j<Gs.length->∀u,1<=u->u<v->∀y,Cmb O q (Gs.getD j []) 0 u true (fun _=>0) y->cB y n≠0->BdW n best (cB y n)
section
variable {O:aO} {q:Int} (hO:O.Fld q) {n:Nat} {gen:LL} {p:LI}
include hO
theorem BU(hA:dP O q n gen p)(K:0<gen.length){F:List (List Nat)}{Gs:List (LL)}(T:F.length=Gs.length)(D:0<F.length)(C:∀j,j<F.length->AX O n gen (F.getD j []) (Gs.getD j []))
  {v:Nat}(U:2<=v){best:LI}(G:E1 O q n Gs v best)(hR:∀j,j<Gs.length->Rows q n (Gs.getD j [])):best≠[]:=by
 obtain⟨x,Q,B,_⟩:=EZ hO hA (S:=[]) (by simpa using K);have E:=C 0 D;have N:=E.row x Q
 --some row of the first matrix is not 0
 have I:∃i,i<(Gs.getD 0 []).length/\∃j,j<n/\ent (Gs.getD 0 []) i j≠0:=by refine aY0 fun L=>?_;obtain⟨j,A,R⟩:=B;refine R ?_;rw[N j];refine bK hO fun i hi=>?_;have:ent (Gs.getD 0 []) i j=0:=aY0 fun h=>L ⟨i,hi,j,A,h⟩;rw[this,hO.mul_zero]
 obtain⟨i,hi,j,A,J⟩:=I;have hq:=hO.lt.pos;have P:=(hR 0 (by omega) i hi).2;have M:(fun j=>O.add (0:Int) (O.mul 1 (ent (Gs.getD 0 []) i j)))=ent (Gs.getD 0 []) i:=funext fun j=>by have:=P j;change 0<=ent (Gs.getD 0 []) i j/\ent (Gs.getD 0 []) i j<q at this;rw[hO.one_mul this.1 this.2,hO.zero_add this.1 this.2]
 have H:Cmb O q (Gs.getD 0 []) 0 1 true (fun _=>0) (ent (Gs.getD 0 []) i):=by refine Cmb.step i 1 (aZ5 _) (by omega) ⟨by omega,by omega⟩ (fun _=>rfl) ?_;rw[M];exact Cmb.nil _ _ _
 exact(G 0 (by omega) 1 zr (by omega) _ H (IJ ⟨j,A,J⟩)).1
theorem QD(hA:dP O q n gen p)(T:0<gen.length){F:List (List Nat)}{Gs:List (LL)}(J:F.length=Gs.length)(H:0<F.length)(hI:∀S,S∈F->DN O n gen S)(G:∀j,j<F.length->AX O n gen (F.getD j []) (Gs.getD j []))(hR:∀j,j<Gs.length->Rows q n (Gs.getD j []))
  {v:Nat}(Y:1<=v){best:LI}(hb:KS O q n gen best)(I:E1 O q n Gs (v+1) best)(R:gen.length<=v\/cB (fun j=>best.getD j 0) n<jU gen.length v [] F):
  best.length=n/\aV O gen (fun j=>best.getD j 0)/\cB (fun j=>best.getD j 0) n≠0/\∀x,aV O gen x->(∃j,j<n/\x j≠0)->cB (fun j=>best.getD j 0) n<=cB x n:=by
 have U:=BU hO hA T J H G (by omega) I hR;rcases hb with e|⟨K,_,M,N⟩
 .exact absurd e U
 refine⟨K,M,N,fun x V P=>?_⟩;refine IR hO J (fun j B=>?_) (fun j B u A C y W D=>(I j (by omega) u A (by omega) y W D).2) (R.elim (fun h=>.inl ⟨H,h⟩) .inr) V P;have hm:F.getD j []∈F:=by rw[aZ4,aZ3 B];exact aY6 B
 have E:=hI _ hm;refine⟨G j B,?_,fun i hi=>E.ris.lt hi⟩;rw[List.nodup_iff_pairwise_ne];rw[List.pairwise_iff_getElem];intro a b Q hb X;have key:∀d a,a+d+1<(F.getD j []).length->(F.getD j []).getD a 0<(F.getD j []).getD (a+d+1) 0:=by
  intro d
  induction d with
  |zero=>intro a h;have A:=(E.ris (a+1) (by rw[aY];exact h)).2.2 (by omega);rw[Nat.add_sub_cancel,gJ (by omega),gJ h] at A;exact Int.ofNat_lt.1 A
  |succ d ih=>intro a h;have A:=ih a (by omega);have C:=(E.ris (a+(d+1)+1) (by rw[aY];exact h)).2.2 (by omega);rw[Nat.add_sub_cancel,gJ (by omega),gJ h] at C;have D:=Int.ofNat_lt.1 C;rw[show a+(d+1)=a+d+1 by omega] at D|-;omega
 have A:=key (b-a-1) a (by omega);rw[show a+(b-a-1)+1=b by omega] at A;generalize F.getD j []=L at*;rw[aZ4,aZ3 Q,aZ4,aZ3 hb] at A;simp only[Option.getD_some] at A;omega
end
theorem Tryz.infoMat:(Tryz.prog.info? 25).map (fun i=>(i.zero,i.size,i.bytes))=some (some (.slice none 0 0),1,24):=by kernel_rfl
theorem Tryz.infoRnd:(Tryz.prog.info? 123).map (fun i=>(i.zero,i.size,i.bytes))=some (some (.agg #[.int .i64 0,.int .i64 0,.int .i64 0,.int .i64 0]),4,32):=by kernel_rfl
structure RnW(O:aO)(q:Int)(n:Nat)(gen:LL)(a sb:Nat)(P M N:Int)(mv gv:Value)(w2 wr:World)(sv rk:Value)(F:List (List Nat))(tr:Nat)(us:List Value)(Gs:List (LL)):Prop where
 blk:Blk wr sb 115 [.pointer (some ⟨a,0,none⟩),.int .i64 P,.int .i64 M,mv,.int .i64 N,gv,sv,.slice none 0 0,.int .i64 0]
 gens:RO w2.heap.size 25 1 wr sv (us.map fun u=>[u])
 len:Gs.length=us.length
 sys:∀j,j<us.length->AX O n gen (F.getD j []) (Gs.getD j [])/\(Rows q n (Gs.getD j [])/\dY O (Gs.getD j []) gen)/\∃lo hi,sb<lo/\Btw lo hi wr (fun w2=>SS w2 (us.getD j (.slice none 0 0)) (Gs.getD j []))/\(∀g,sv.ownBlock=some g->g<lo\/hi<=g)/\∀g,rk.ownBlock=some g->g<lo\/hi<=g
 rks:OI w2.heap.size wr rk ((cL F).take tr)
 ap:∀g,sv.ownBlock=some g->g≠sb/\rk.ownBlock≠some g
 ar:∀g,rk.ownBlock=some g->g≠sb
 bel:Below w2.heap.size w2 wr
 sbl:w2.heap.size<=sb
section
variable {O:aO} {q:Int} {n:Nat} {gen:LL} {a sb:Nat} {P M N:Int} {mv gv:Value} {w2 wr w1:World} {sv rk:Value} {F:List (List Nat)} {tr:Nat} {us:List Value} {Gs:List (LL)}
theorem RnW.on(h:RnW O q n gen a sb P M N mv gv w2 wr sv rk F tr us Gs)(hb:Below wr.heap.size wr w1):RnW O q n gen a sb P M N mv gv w2 w1 sv rk F tr us Gs:=by refine⟨h.blk.belowS hb,h.gens.below hb zr,h.len,fun j H=>?_,h.rks.below hb zr,h.ap,h.ar,h.bel.trans (hb.mono h.bel.size),h.sbl⟩;obtain⟨A,B,lo,hi,C,D,E,G⟩:=h.sys j H;exact⟨A,B,lo,hi,C,D.on hb,E,G⟩
theorem RnW.more {C wA : World} {u A : Value} {G : LL} {lo hi : Nat} (h : RnW O q n gen a sb P M N mv gv w2 wr sv rk F tr us Gs) (Z : AX O n gen (F.getD us.length []) G) (hR : Rows q n G /\ dY O G gen) (U : sb < lo) (hB : Btw lo hi wr (fun w2 => SS w2 u G))
   (W:∀g,sv.ownBlock=some g->g<lo\/hi<=g)(d:∀g,rk.ownBlock=some g->g<lo\/hi<=g)
   (hA:Below wr.heap.size wr wA)(m:wr.heap.size<wA.heap.size)(Y:RO w2.heap.size 25 1 C A ((us.map fun u=>[u])++[[u]]))(g7:wA.grownBy C sv.ownBlock)(i:A.ownBlock=sv.ownBlock\/A.ownBlock=some wA.heap.size):
   RnW O q n gen a sb P M N mv gv w2 (C.setCell ⟨sb,6,none⟩ A) A rk F tr (us++[u]) (Gs++[G]):=by
 have E:wr.grownBy C sv.ownBlock:=aX (aN hA _) g7;have H:=bF C sb 6 A;have k:sb<wr.heap.size:=h.blk.lt;have l:=h.bel.size;have J:∀g,A.ownBlock=some g->sv.ownBlock=some g\/g=wA.heap.size:=fun g hg=>by
   rcases i with e|e
   . exact .inl (by rw[<-e];exact hg)
   . rw[e] at hg;exact .inr (aZ0 hg).symm
 have V:∀g,A.ownBlock=some g->g≠sb:=fun g hg=>by
   rcases J g hg with B|B
   . exact(h.ap g B).1
   . omega
 have b7:=h.bel.grown E h.bel.size fun g hg=>(h.gens.lt hg).1;have tr:∀{lo hi:Nat} {Φ:World->Prop},sb<lo->Btw lo hi wr Φ->(∀g,sv.ownBlock=some g->g<lo\/hi<=g)->Btw lo hi (C.setCell ⟨sb,6,none⟩ A) Φ:=fun B Q I=>(Q.grown E I).grown H fun g e=>by cases e;exact .inl B
 refine⟨?_,?_,by rw[aZ1,aZ1,h.len];rfl,fun j c=>?_,(h.rks.grown E fun g hg e=>(h.ap g e).2 hg).grown H fun g hg e=>by cases e;exact h.ar _ hg rfl,fun g hg=>⟨V g hg,fun e=>?_⟩,h.ar,b7.grown H b7.size fun g e=>by cases e;exact h.sbl,h.sbl⟩
 . exact(h.blk.grown E fun e=>(h.ap _ e.symm).1 rfl).set_ 6 A
 . rw[List.map_append];exact Y.grown H fun g hg e=>by cases e;exact V _ hg rfl
 . rw[aZ1,aZ2] at c;by_cases R:j<us.length
   . obtain⟨B,Q,f,b,I,S,T,X⟩:=h.sys j R;have K:(Gs++[G]).getD j []=Gs.getD j []:=by simp[List.getD,aY2 (show j<Gs.length by rw[h.len];exact R)]
     have L:(us++[u]).getD j (.slice none 0 0)=us.getD j (.slice none 0 0):=by simp[List.getD,aY2 R]
     rw[K,L];refine⟨B,Q,f,b,I,tr I S T,fun g hg=>?_,X⟩;rcases J g hg with D|D
     . exact T g D
     . right;have:=S.1;omega
   . obtain rfl:j=us.length:=by omega
     have K:(Gs++[G]).getD us.length []=G:=by simp[List.getD,<-h.len]
     have L:(us++[u]).getD us.length (.slice none 0 0)=u:=by simp[List.getD]
     rw[K,L];refine⟨Z,hR,lo,hi,U,tr U hB W,fun g hg=>?_,d⟩;rcases J g hg with D|D
     . exact W g D
     . right;have:=hB.1;omega
 . rcases J g hg with B|B
   . exact(h.ap g B).2 e
   . have:=(h.rks.lt e).2;omega
theorem RnW.rank{D wA:World}{B:Value}(hA:Below wr.heap.size wr wA)(W:wr.heap.size<wA.heap.size)(h:RnW O q n gen a sb P M N mv gv w2 wr sv rk F tr us Gs)
   (R:OI w2.heap.size D B ((cL F).take tr++[(cL F).getD tr 0]))(T:tr<F.length)(g7:wA.grownBy D rk.ownBlock)(U:B.ownBlock=rk.ownBlock\/B.ownBlock=some wA.heap.size):
   RnW O q n gen a sb P M N mv gv w2 D sv B F (tr+1) us Gs:=by
 have C:wr.grownBy D rk.ownBlock:=aX (aN hA _) g7;have E:∀g,B.ownBlock=some g->rk.ownBlock=some g\/g=wA.heap.size:=fun g hg=>by
   rcases U with e|e
   . exact .inl (by rw[<-e];exact hg)
   . rw[e] at hg;exact .inr (aZ0 hg).symm
 have V:sb<wr.heap.size:=h.blk.lt;refine⟨h.blk.grown C fun e=>h.ar _ e.symm rfl,h.gens.grown C fun g hg e=>(h.ap g hg).2 e,h.len,fun j S=>?_,?_,fun g hg=>⟨(h.ap g hg).1,fun e=>?_⟩,fun g hg=>?_,h.bel.grown C h.bel.size fun g hg=>(h.rks.lt hg).1,h.sbl⟩
 . obtain⟨A,K,lo,hi,L,G,Q,H⟩:=h.sys j S;refine⟨A,K,lo,hi,L,G.grown C H,Q,fun g hg=>?_⟩;rcases E g hg with I|I
   . exact H g I
   . right;have:=G.1;omega
 . have e:(cL F).take (tr+1)=(cL F).take tr++[(cL F).getD tr 0]:=by
     have J:tr<(cL F).length:=by rw[gG];exact T
     rw[List.take_add_one,aZ3 J,aZ4,aZ3 J];rfl
   rw[e];exact R
 . rcases E g e with A|A
   . exact(h.ap g hg).2 A
   . have:=(h.gens.lt hg).2;omega
 . rcases E g hg with A|A
   . exact h.ar g A
   . omega
end
section
variable {a sb B n:Nat} {P M N:Int} {Mod:LI} {mv gv sv Gv:Value} {gen G:LL} (hO:(aB P M Mod).Fld (aC P M)) (hB:B<=sb) (hn:n<=1000) (hn1:1<=n) (hR:Rows (aC P M) n G) (hI:dY (aB P M Mod) G gen) (hGl:G.length<=100)
include hO hB hn hn1 hR hI hGl
theorem ID:∀left,left<=100->KU (aB P M Mod) (aC P M) n gen G a sb B P M N Mod mv gv sv Gv left
 |0,_=>PB hO hB hn hn1 hR hI hGl
 |left+1,h=>O9 hO hB hn hn1 hR hI hGl left (by omega) (ID left (by omega))
end
def PP(O:aO)(q:Int)(n:Nat)(Gs:List (LL))(v j:Nat)(best:LI):Prop:=
 E1 O q n Gs v best/\∀i,i<j->i<Gs.length->∀y,Cmb O q (Gs.getD i []) 0 v true (fun _=>0) y->cB y n≠0->BdW n best (cB y n)
theorem PP.full{O:aO}{q:Int}{n:Nat}{Gs:List (LL)}{v j:Nat}{best:LI}(h:PP O q n Gs v j best)(E:Gs.length<=j):E1 O q n Gs (v+1) best:=fun i hi u C D y B A=>by
 by_cases e:u=v
 .subst e;exact h.2 i (by omega) hi y B A
 .exact h.1 i hi u C (by omega) y B A
theorem UP{a b c:World}{row A:Option Nat}(h:a.grownBy b row)(k:b.grownBy c A)(C:∀g,A=some g->a.heap.size<=g):a.grownBy c row:=
 ⟨k.os.trans h.os,k.tape.trans h.tape,k.output.trans h.output,aZ6 h.size k.size,fun i hi B=>(k.block i (aY1 hi h.size) (fun e=>by have:=C i e.symm;omega)).trans (h.block i hi B)⟩
theorem RO.ne_oi{B B' s:Nat}{t:TypeId}{w:World}{v u:Value}{l:List (List Value)}{xs:LI}(h:RO B t s w v l)(K:OI B' w u xs)(L:t≠3):∀g,v.ownBlock=some g->u.ownBlock≠some g:=fun g C A=>by
 rcases h.1.2 with⟨e,_⟩|⟨H,M,O,e,_,J,_⟩
 .rw[e] at C;cases C
 .rcases K.2 with⟨D,_⟩|⟨I,N,P,D,_,E,_⟩
  .rw[D] at A;cases A
  .rw[e] at C;rw[D] at A;have F:H=g:=aZ0 C;have G:I=g:=aZ0 A;subst F;subst G;rw[J] at E;have:=aZ0 E;injection this with _ e3 _
   exact L e3
theorem SrS.grownR{O:aO}{q:Int}{n:Nat}{gen:LL}{a sb:Nat}{P M N:Int}{mv gv sv:Value}{w w':World}{best:LI}{k:Nat}{B s:Nat}{t:TypeId}{v:Value}{l:List (List Value)}(h:SrS O q n gen a sb P M N mv gv sv w best k)(D:RO B t s w v l)(hg:w.grownBy w' v.ownBlock)(H:sb<B)(G:t≠3):SrS O q n gen a sb P M N mv gv sv w' best k:=by obtain⟨A,c,E,C⟩:=h.blk;exact⟨⟨A,c,E.grown hg fun e=>by have:=(D.lt e.symm).1;omega,C.grown hg fun g F e=>D.ne_oi C G g e F⟩,h.bst⟩
theorem SW{k:Nat}{F:List (List Nat)}(h:∀S,S∈F->S.length=k):∀j,j<(cL F).length->0<=(cL F).getD j 0/\(cL F).getD j 0<=k:=fun j A=>by rw[gG] at A;rw[oL A];have B:=EH (F.take j).flatten (F.getD j []);have C:=h _ (by rw[aZ4,aZ3 A];exact aY6 A:F.getD j []∈F);omega
theorem VJ(w:World)(P M:Int)(n q:Nat)(mv gv:Value)(Mod:LI)(gen:LL)(p:LI)(hm:SI w mv Mod)(hg:SS w gv gen)(hC:fH P M Mod n gen p)(Bp:0<gen.length)(Jz:n<=7)(hq:aC P M=(q:Int))(hqk:q^gen.length<=256):
   Calls Tryz.prog 28 #[.agg #[.int .i64 P,.int .i64 M,mv,.int .i64 (n:Int),gv]] w (fun e w'=>∃Jm Gx best,e=.returned (.tuple #[Jm,Gx,.int .i64 0])/\SI w' Gx best/\best.length=n/\aV (aB P M Mod) gen (fun j=>best.getD j 0)/\cB (fun j=>best.getD j 0) n≠0/\
     (∀x,aV (aB P M Mod) gen x->(∃j,j<n/\x j≠0)->cB (fun j=>best.getD j 0) n<=cB x n)/\Below w.heap.size w w'):=by
 have Cj:=zh hm;have Co:=zh hg;have d:=zh hC;have Dm:=zh hq;have Ck:=zh hqk;have Ir:=hC.kn;have hn1:=hC.n1;obtain⟨c,r,rfl,_⟩:=hg;have Aw:=zh (dD.mk' w P M mv n (.slice c gen.length r));obtain⟨k,Dz⟩:∃k,k=gen.length:=⟨_,rfl⟩
 have ω:=zh Dz;rw[<-Dz] at Co Aw Ck Bp Ir|-;clear hm hC hq hqk Dz;go_enter Tryz.func28,Tryz.ntmps28;go_upto_region 1 with fail;generalize w.alloc (.cells #[.int .i64 P,.int .i64 M,mv,.int .i64 (n:Int),.slice c k r] 27)=w0 at*;obtain⟨T,U,V,W,X,_,_,_,_,_⟩:=Aw.blk.five;go_wp2_with fail;refine(eO w0 P M n mv _ Mod gen (Cj.below Aw.bel zr) (Co.below Aw.bel zr)).mono ?_;rw[d.out.err];rintro e w1 ⟨rfl,Fz⟩;have Cb:=zh (Aw.on Fz);clear Fz Aw T U V W X;obtain⟨T,U,V,W,X,_,_,_,_,_⟩:=Cb.blk.five;have Jx:((k:Int)==0)=false:=by rw[beq_eq_false_iff_ne];omega
 go_wp2_with fail;refine(mK w1 P M mv Mod (Cj.below Cb.bel zr) d.fld).mono ?_;rintro e w2 ⟨a,rfl,Gm,Ga⟩;have Es:=zh Gm.out;have Bj:=zh (Cb.on Ga);clear Gm Ga Cb T U V W X;obtain⟨T,U,V,W,X,_,_,_,_,_⟩:=Bj.blk.five;go_wp2_with fail;refine(UU w2 P M n mv _ Mod gen p (Cj.below Bj.bel zr) (Co.below Bj.bel zr) d (by rw[<-ω.out];exact Bp) (by omega)).mono ?_;rintro e Q ⟨Js,F,l,rfl,Ct,Ik,Fu,Ea,Bs,Ge,Dt⟩;have Cc:=zh (Bj.on Dt);have Hg:=zh (Es.on Dt);have Dg:=zh Fu;have Hl:=zh Ea;have Dn:=zh Bs;have Hf:=zh Ge;have Hc:=zh Ct;obtain⟨Jr,Ke,rfl,_⟩:=Bs;rw[Ea] at Dn|-;obtain⟨A,Dv⟩:∃A,A=F.length:=⟨_,rfl⟩
 have f:=zh Dv;rw[<-Dv] at Dn Hc Ik Ct|-;clear Fu Ea Ge Dt Dv Bj Es T U V W X;obtain⟨T,U,V,W,X,_,_,_,_,_⟩:=Cc.blk.five;go_upto_region 13 with fail;obtain⟨Ei,sb,Z,I,ρ,Ad⟩:=bB Q 115 [.pointer (some ⟨a,0,none⟩),.int .i64 P,.int .i64 M,mv,.int .i64 (n:Int),.slice c k r,.slice none 0 0,.slice none 0 0,.int .i64 0];rw[Z,I];have Jo:=zh (Cc.on Ad);have Ix:Q.heap.size<=sb:=by omega
 have Fc:Hid (RnW (aB P M Mod) (aC P M) n gen a sb P M n mv (.slice c k r) Q Ei (.slice none 0 0) (.slice none 0 0) F 0 [] []):=aD ⟨ρ,RO.nil _ _ _ _,rfl,fun j D=>absurd D (aY5 _),by rw[List.take_zero];exact OI.nil _ _,fun g h=>(by cases h),fun g h=>(by cases h),Ad,Ix⟩;clear Z I ρ Ad T U V W X;go_wp2_with fail;go_loopw [10,55] (fun Je Ef wr=>∃(t:Nat) (us:List Value) (Gs:List (LL)) (Y Ag:Option Addr) (L Ah:Nat),t<=A/\Ef=.int .i64 (t:Int)/\Je=.slice Ag t Ah/\us.length=t/\Hid (RnW (aB P M Mod) (aC P M) n gen a sb P M n mv (.slice c k r) Q wr (.slice Y t L) (.slice Ag t Ah) F t us Gs)) (fun _ Ef _=>A-(intOf Ef).toNat)
 case atStart=>exact⟨0,[],[],none,none,0,0,aZ5 _,rfl,rfl,rfl,Fc⟩
 case round=>
   clear Fc;obtain⟨t,us,Gs,Y,Ag,L,Ah,Ja,rfl,rfl,Gr,H⟩:=hrel;have De:Hid (dD w wr P M mv n (.slice c k r)):=aD (Cc.on H.bel);have π:=zh Gr;clear Gr;obtain⟨T,U,V,W,X,_,_,_,_,_⟩:=De.blk.five;by_cases Bu:t<A
   . obtain⟨u,Af,Gp⟩:=Hf.out t (by rw[<-f.out];exact Bu);obtain⟨Fp,rfl,ζ,J⟩:=(Dn.below H.bel zr).elt (k:=t) (by rw[Hl.out,<-f.out];exact Bu);rw[Af] at ζ J;have x0:=ζ _ rfl;have x1:=J 0 _ rfl;have Fj:=zh Gp;obtain⟨Jl,Dd,rfl,_⟩:=Gp;have Dy:DN (aB P M Mod) n gen (F.getD t []):=Dg.out _ (by rw[aZ4,aZ3 (by rw[<-f.out];exact Bu)];exact aY6 _);have Hj:=zh Dy;rw[aY,Dy.len,<-ω.out] at Fj x0;obtain⟨ν,Ec⟩:∃ν,ν=(cL F).getD t 0:=⟨_,rfl⟩
     have Hv:=zh Ec;rw[<-Ec] at x1;clear ζ J Af Dy Ec;go_upto_region 17 with fail;obtain⟨Bh,gx,Z,I,Bb,Du⟩:=bB wr 117 [.slice Jl k Dd,.int .i64 ν];rw[Z,I];have Ba:=zh (H.on Du);have Ch:=zh (De.on Du);have Dq:=zh Bb;have Cl:=zh (Fj.below (Ba.bel) zr);have Ex:Hid (sb<gx/\∀g,(Value.slice Y t L).ownBlock=some g->g<gx):=aD ⟨by rw[<-I];exact H.blk.lt,fun g hg=>by rw[<-I];exact(H.gens.lt hg).2⟩;clear Z I Bb Du x0 x1 T U V W X H De;obtain⟨T,U,V,W,X,_,_,_,_,_⟩:=Ch.blk.five;obtain⟨x0,x1,_,_⟩:=Dq.two;go_wp2_with fail;refine(UX (Cj.below Ch.bel zr) (Co.below Ch.bel zr) Cl d Hj (by rw[<-ω.out];exact Bp)).mono ?_;rintro e Ej ⟨G,Fy,Fv,Kd,rfl,Ee,Cu⟩;obtain⟨Am,As,rfl,_⟩:=Ee.out;have Hy:=zh Fy;have Ht:=zh Fv;have Fe:=zh (Ba.on Cu);have Fm:=zh (Dq.belowS Cu);have Cf:=zh (Btw.of_sep Ee);have Ia:=zh Cu.size;have Ak:Hid (sb<Bh.heap.size/\(∀g,(Value.slice Y t L).ownBlock=some g->g<Bh.heap.size)/\∀g,(Value.slice Ag t Ah).ownBlock=some g->g<Bh.heap.size):=aD ⟨Ba.blk.lt,fun g hg=>(Ba.gens.lt hg).2,fun g hg=>(Ba.rks.lt hg).2⟩;obtain⟨φ,Gk⟩:∃φ,φ=G.length:=⟨_,rfl⟩
     rw[<-Gk] at Cf|-;clear Ee Cu Fy Fv Gk T U V W X x0 x1 Dq Ch Ba Cl;go_upto_region 18 with fail;obtain⟨Bi,Cs,Z,I,Ds,μ⟩:=bB Ej 86 [.int .i64 (n:Int),.slice Am φ As];rw[Z,I];have Al:=zh (Fe.on μ);have Bl:=zh (Fm.belowS μ);have Dj:=zh Ds;have El:=zh (Cf.on μ);have Hn:Hid (∀g,(Value.slice Y t L).ownBlock=some g->g≠Cs):=aD fun g hg e=>by have:=Ak.2.1 g hg;have Ju:=Cf.1;have:Bh.heap.size<=Ej.heap.size:=Ia.out;omega
     clear Z I Ds μ Fe Fm Cf;go_upto_region 20 with fail;have Ar:Bi.cell? ⟨sb,6,none⟩=some (.slice Y t L):=Al.blk.cell 6;have Eg:Bi.cell? ⟨Cs,1,none⟩=some (.slice Am φ As):=Dj.cell 1;have Eu:Hid (RO Q.heap.size 25 1 Bi (.slice Y t L) (us.map fun u=>[u])):=aD Al.gens;have Hm:Hid ((us.map fun u=>[u]).length+1<=100000000):=aD (by rw[aY7,π.out];omega);have Em:=zh Al.bel.size;refine aM.start (S:=fun w'=>w'.cell? ⟨sb,6,none⟩=some (.slice Y t L)/\w'.cell? ⟨Cs,1,none⟩=some (.slice Am φ As)) (by kernel_rfl) (⟨Ar,Eg⟩) (fun s=>?_);change aM _ _ _ _ 12 _ _ _;refine dq 0 ?_;refine dq 1 ?_;refine dq 2 ?_;refine dq 3 ?_;refine dq 4 ?_;refine dq 5 ?_;refine dq 6 ?_;try simp only[tz]
     refine aM.only (i:=7) (o:=?op1) (by kernel_rfl) ?ho1 (fun K hK=>?_)
     case ho1=>(conv=>lhs;simp only[tdg,tdh,tdi])
     go_simp;obtain⟨Jn,Cr,Z,I,Bn,Bo⟩:=uV Bi 25 [.slice Am φ As];rw[Z,I];have Dr:=zh Bn;have At:=zh Bo;have Hi:Hid (Bi.heap.size=Cr):=aD I;have Ci:=zh (Eu.below Bo zr);have Fs:=aE Bo Ar;have Ft:=aE Bo Eg;clear Z I Bn Bo;refine hK.out _ _ (fun _=>⟨Fs,Ft⟩) (fun η=>?_);clear hK K;replace s:=η (by decide);clear η;try simp only[tz]
     refine aM.only (i:=8) (o:=?op2) (by kernel_rfl) ?ho2 (fun K hK=>?_)
     case ho2=>(conv=>lhs;simp only[tdg,tdh,tdi])
     refine nE rfl 25 113 1 24 _ Tryz.underlying113 Tryz.infoMat rfl (by decide) (by decide) _ _ rfl Q.heap.size (.slice Y t L) (us.map fun u=>[u]) rfl Ci.out Cr 1 [.slice Am φ As] rfl rfl (fun j u D=>(by rcases j with _|j;(simp at D;subst D;exact Dr.cell 0);(simp at D))) (by intro u Af;simp at Af;subst Af;rfl) Hm.out (aZ6 Em At.size) ?_;intro Gy χ b δ τ;obtain⟨Bm,Bw,rfl⟩:=b.form';rw[aZ1,aZ2,aY7,π.out] at b τ|-;have Az:=zh b;have ψ:=zh δ;have Cp:=zh τ;have Au:=zh ((Al.blk.belowS At).grown δ (fun e=>(Al.ap _ e.symm).1 rfl));have An:=Au.cell 6;have Ij:=Au.frozen 6;have Ao:χ.cell? ⟨Cs,1,none⟩=some (.slice Am φ As):=((Dj.belowS At).grown δ (fun e=>Hn.out _ e.symm rfl)).cell 1;simp only[List.getElem?_cons_zero,List.getElem?_cons_succ] at An;clear b δ τ;refine hK.out _ _ (fun _=>⟨An,Ao⟩) (fun η=>?_);clear hK K;replace s:=η (by decide);clear η;try simp only[tz]
     refine aM.only (i:=9) (by kernel_rfl) rfl (fun K hK=>?_);go_simp;refine hK.out _ _ (fun _=>s) (fun η=>?_);clear hK K;clear η;try simp only[tz]
     refine dq 10 ?_;try simp only[tz]
     refine aM.only (i:=11) (by kernel_rfl) rfl (fun K hK=>?_);go_simp;refine hK.out _ _ (fun h=>absurd rfl h) (fun η=>?_);clear hK K;clear η;refine aM.done (by kernel_rfl) ?_;try simp only[tz]
     clear s;have Dk:=zh (Al.more (wA:=Jn) (by rw[π.out];exact Hy.out) Ht Ak.1 El (fun g hg=>.inl (Ak.2.1 g hg)) (fun g hg=>.inl (Ak.2.2 g hg)) At (by rw[Hi.out];exact Dr.lt) Az ψ Cp);have Ie:=zh (((Bl.belowS At).grown ψ (fun e=>by have:=Ex.2 gx e.symm;omega)).far (p:=⟨sb,6,none⟩) (by have:=Ex.1;intro e;have I:gx=sb:=e;omega) (.slice Bm (t+1) Bw));generalize χ.setCell ⟨sb,6,none⟩ (.slice Bm (t+1) Bw)=Ai at*;clear Ar Eg Fs Ft An Ao Ij Al Bl Dj El Eu Em Dr At Ci Az ψ Cp Au;obtain⟨x0,x1,_,_⟩:=Ie.two;have Hs:=zh (Dk.rks.alloc (.cells #[.int .i64 ν] 3));have Ho:=zh (Blk.new Ai 3 [.int .i64 ν]);have Fk:Hid (((cL F).take t).length=t):=aD (by rw[aY3,gG,<-f.out];omega);have Ae:=aF Ai (.cells #[.int .i64 ν] 3);have Hz:Hid (Q.heap.size<=(Ai.alloc (.cells #[.int .i64 ν] 3)).heap.size):=aD (aZ6 Dk.bel.size Ae.size);have Hw:Hid (Ai.heap.size<(Ai.alloc (.cells #[.int .i64 ν] 3)).heap.size):=aD (by rw[World.size_alloc];omega);clear Ae;go_wp2_with (
       at_builtin;refine nP rfl _ _ rfl Q.heap.size (.slice Ag t Ah) ((cL F).take t) rfl Hs.out Ai.heap.size 1 ν rfl (Ho.cell 0) (by rw[Fk.out];omega) Hz.out ?_;intro Gy χ b δ τ;obtain⟨Ih,Jd,rfl⟩:=b.form';rw[aZ1,aZ2,Fk.out] at b τ|-;have Az:=zh b;have ψ:=zh δ;have Cp:=zh τ;clear b δ τ)
     refine⟨⟨t+1,us++[.slice Am φ As],Gs++[G],Bm,Ih,Bw,Jd,by omega,by push_cast;rfl,rfl,by rw[aZ1,π.out];rfl,aD ?_⟩,by simp only[intOf];omega⟩;exact RnW.rank (aF Ai (.cells #[.int .i64 ν] 3)) Hw.out Dk.out (by rw[<-Hv.out];exact Az.out) (by rw[<-f.out];exact Bu) ψ.out Cp.out
   . obtain rfl:A=t:=by omega
     clear Bu Ja T U V W X;obtain⟨R,Jc⟩:∃R,R=wr:=⟨_,rfl⟩
     subst Jc;have Di:Hid (Gs.length=A):=aD (by rw[H.out.len,π.out]);have Fh:Hid (SrS (aB P M Mod) (aC P M) n gen a sb P M n mv (.slice c k r) (.slice Y A L) R [] 0):=aD ⟨⟨none,0,H.blk,OI.nil _ _⟩,.inl rfl⟩;have Ev:Hid (R.grownBy R (some sb)):=aD (aN (bE R) _);have En:Hid (E1 (aB P M Mod) (aC P M) n Gs 1 []):=aD fun j D u J Ac=>by omega
     --what any later world of this kind says
     have Dh : Hid (∀ C, R.grownBy C (some sb) -> Below Q.heap.size Q C /\ RO Q.heap.size 25 1 C (.slice Y A L) (us.map fun u => [u]) /\ OI Q.heap.size C (.slice Ag A Ah) (cL F) /\ dD w C P M mv n (.slice c k r) /\
         ∀j,j<A->Sep (sb+1) C (fun w2=>SS w2 (us.getD j (.slice none 0 0)) (Gs.getD j []))):=aD fun C hg=>by
       have Gc:=H.bel.grown hg H.bel.size fun g e=>by cases e;exact H.sbl
       refine⟨Gc,H.gens.grown hg fun g h e=>by cases e;exact(H.ap _ h).1 rfl,?_,Cc.on Gc,fun j D=>?_⟩
       . have:=H.rks.grown hg fun g h e=>by cases e;exact H.ar _ h rfl
         rw[show(cL F).take A=cL F by rw[f.out,<-gG,List.take_length]] at this;exact this
       . obtain⟨_,_,lo,hi,Ap,ρ,_,_⟩:=H.sys j (by rw[π.out];exact D);exact(ρ.grown hg fun g e=>by cases e;exact .inl Ap).sep Ap
     have Cm:Hid (∀j,j<A->AX (aB P M Mod) n gen (F.getD j []) (Gs.getD j [])/\Rows (aC P M) n (Gs.getD j [])/\dY (aB P M Mod) (Gs.getD j []) gen):=aD fun j D=>by obtain⟨J,Ac,_⟩:=H.sys j (by rw[π.out];exact D);exact⟨J,Ac⟩
     have Fa:Hid (RO R.heap.size 123 4 R (.slice none 0 0) []):=aD (RO.nil _ _ _ _);have Et:Hid (∀C,Below Q.heap.size Q C->GF C a P M Mod):=aD fun C h=>Hg.on h;have Iw:2<=q:=by have J:=d.O.lt.pos;rw[Dm.out] at J;omega
     have Fl:Hid (∀v,1<=v->v<=k->A*chN k v*(q-1)^(v-1)<=1792/\(q-1)^(v-1)<=65536):=aD fun v J Ac=>by
       have Ap:=xO (q-1) k v;rw[show q-1+1=q by omega] at Ap;have ρ:(q-1)^(v-1)<=(q-1)^v:=Nat.pow_le_pow_right (by omega) (by omega);have Bb:chN k v*(q-1)^(v-1)<=256:=aZ6 (Nat.mul_le_mul_left _ ρ) (aZ6 Ap Ck);refine⟨?_,?_⟩
       . rw[Nat.mul_assoc];exact aZ6 (Nat.mul_le_mul (show A<=7 by omega) Bb) (by decide)
       . have Jt:(q-1)^(v-1)<=q^(v-1):=Nat.pow_le_pow_left (by omega) _;have Ds:q^(v-1)<=q^k:=Nat.pow_le_pow_right (by omega) (by omega);have:=Ck.out;omega
     have Ff:Hid (∀j,j<(cL F).length->0<=(cL F).getD j 0/\(cL F).getD j 0<=k):=aD (SW fun S Il=>by rw[(Dg.out S Il).len,ω.out])
     have Ep : Hid (∀ (C : World) (best : LI) (E v : Nat), SrS (aB P M Mod) (aC P M) n gen a sb P M n mv (.slice c k r) (.slice Y A L) C best E -> R.grownBy C (some sb) -> 1 <= v -> E1 (aB P M Mod) (aC P M) n Gs (v + 1) best -> (k <= v \/ (best.length = n -> cB (fun j => best.getD j 0) n < jU k v [] F)) ->
         best.length=n/\aV (aB P M Mod) gen (fun j=>best.getD j 0)/\cB (fun j=>best.getD j 0) n≠0/\(∀x,aV (aB P M Mod) gen x->(∃j,j<n/\x j≠0)->cB (fun j=>best.getD j 0) n<=cB x n)/\Below w.heap.size w C):=aD fun C best E v J Ac Ap ρ Bb=>by
       have Gj:F.length=Gs.length:=by rw[Di.out,f.out]
       have Fw:∀j,j<Gs.length->Rows (aC P M) n (Gs.getD j []):=fun j D=>(Cm j (by rw[Di.out] at D;exact D)).2.1;have Iv:=BU d.O d.rr (by rw[<-ω.out];exact Bp) Gj (by rw[<-f.out];exact Ct) (fun j D=>(Cm j (by rw[f.out];exact D)).1) (by omega) ρ Fw;have Iu:best.length=n:=by rcases J.bst with e|⟨e,_⟩;exact absurd e Iv;exact e
       obtain⟨Bx,By,Bz,Ca⟩:=QD d.O d.rr (by rw[<-ω.out];exact Bp) Gj (by rw[<-f.out];exact Ct) Dg.out (fun j D=>(Cm j (by rw[f.out];exact D)).1) Fw Ap J.bst ρ (by rw[<-ω.out];exact Bb.elim .inl fun h=>.inr (h Iu));exact⟨Bx,By,Bz,Ca,(Dh C Ac).2.2.2.1.bel⟩
     have Gn:Q.heap.size<=sb:=H.sbl;have Iz:sb<R.heap.size:=H.blk.lt;clear H;go_wp2_with fail;go_loopw [15,16] (fun ov x wr=>∃(v:Nat) (best:LI) (E:Nat) (lo:List (List Value)) (Da:Option Addr) (Db:Nat),1<=v/\v<=k+1/\x=.int .i64 (v:Int)/\ov=.slice Da lo.length Db/\Hid (SrS (aB P M Mod) (aC P M) n gen a sb P M n mv (.slice c k r) (.slice Y A L) wr best E)/\Hid (R.grownBy wr (some sb))/\Hid (E1 (aB P M Mod) (aC P M) n Gs v best)/\E<=(v-1)*1792/\Hid (lo.length=v-1)/\Hid (RO R.heap.size 123 4 wr ov lo)) (fun _ x _=>k+1-(intOf x).toNat)
     case atStart=>exact⟨1,[],0,[],none,0,Nat.le_refl _,by omega,rfl,rfl,Fh,Ev,En,by omega,aD rfl,Fa⟩
     case round=>
       clear Fh Ev En Fa;obtain⟨v,best,E,lo,Da,Db,Cw,Ka,rfl,rfl,ε,ι,Df,Gi,Ak,Ay⟩:=hrel;obtain⟨Bc,Bf,Br,Aq,Bt⟩:=Dh.out wr ι.out;obtain⟨T,U,V,W,X,_,_,_,_,_⟩:=Aq.blk.five;have Bk:=zh Bc;clear Bf Br Aq Bt Bc;by_cases Cx:v<=k
       . have Jb:decide ((v:Int)<=(k:Int))=true:=decide_eq_true (by omega);have It:E<=65536:=by have:(v-1)*1792<=6*1792:=Nat.mul_le_mul_right _ (by omega);omega
         have Ey:=zh (VI wr Q.heap.size a sb n E k A v q r L P M n Mod mv c Y gen best (fun C h=>Et.out C (Bk.trans h)) Gn ε Dm Iw (by omega) Cw Cx (by omega) (by omega) It (by have J:=(Fl v Cw Cx).1;have:(v-1)*1792<=6*1792:=Nat.mul_le_mul_right _ (by omega);omega) (Fl v Cw Cx).2);go_wp2_with fail;refine Ey.mono ?_;rintro e Ei ⟨z,rfl,Ad⟩;have Do:=zh (ε.on Ad);have Ew:=zh (aX ι (aN Ad (some sb)));have Fb:=zh (Ay.below Ad zr);have Ax:Hid (PP (aB P M Mod) (aC P M) n Gs v 0 best):=aD ⟨Df.out,fun i h=>absurd h (aY5 _)⟩;clear Ey Ad ε ι Ay Df Bk T U V W X;obtain⟨Aa,Ab,Gb,_⟩:=Do.blk;have Ar:Ei.cell? ⟨sb,6,none⟩=some (.slice Y A L):=Gb.cell 6;clear Gb;go_wp2_with fail;clear Ar;have Jy:=fun(w:World)=>dV n (by omega) w;go_loopw [107] (fun x wr=>∃(j:Nat) (best:LI) (E:Nat),j<=A/\x=.int .i64 (j:Int)/\Hid (SrS (aB P M Mod) (aC P M) n gen a sb P M n mv (.slice c k r) (.slice Y A L) wr best E)/\Hid (R.grownBy wr (some sb))/\Hid (PP (aB P M Mod) (aC P M) n Gs v j best)/\E<=(v-1)*1792+j*256/\Hid (RO R.heap.size 123 4 wr (.slice Da lo.length Db) lo)) (fun x _=>A-(intOf x).toNat)
         case atStart=>exact⟨0,best,E,aZ5 _,rfl,Do,Ew,Ax,by omega,Fb⟩
         case round=>
           clear Do Ew Ax Fb Gi;obtain⟨j,best,E,D,rfl,ε,ι,Ax,Gi,Ay⟩:=hrel;obtain⟨Bc,Bf,Br,Aq,Bt⟩:=Dh.out wr ι.out;have Bk:=zh Bc;have Jp:=zh Aq;have Hr:=zh Br;obtain⟨T,U,V,W,X,_,_,_,_,_⟩:=Aq.blk.five;by_cases Cv:j<A
           . have Ed:=Bt j Cv;have Fi:=zh Ed;obtain⟨Gq,Gl,Gg⟩:=Cm.out j Cv;obtain⟨Fo,Dd,Cq,_⟩:=Ed.out;have Bq:(Gs.getD j []).length=k:=by rw[Gq.len,ω.out]
             rw[Bq] at Cq;have Bs:=Bf.rg;obtain⟨Fp,Ii,ζ,_⟩:=Bs.elt (k:=j) (by rw[aY7,π.out];exact Cv);subst Ii;have x0:=ζ (.slice Fo k Dd) (by rw[<-Cq];simp[List.getD,show j<us.length by rw[π.out];exact Cv]);rw[Nat.mul_one] at x0;rw[Cq] at Fi;have Ig:=zh (OI.made (B:=wr.heap.size) wr n zr (by omega));have Ae:=aF wr (.cells (madeCells #[.int .i64 0] n) 3);have Iy:sb+1<=wr.heap.size:=by have:=ι.size;omega
             have Bv:∀i,(List.replicate n (0:Int)).getD i 0=0:=fun i=>by by_cases hi:i<n<;>simp[List.getD,List.getElem?_replicate,hi]
             have Gh:cmN (aC P M).toNat (k-0) v<=256:=by rw[Dm.out,aZ8];exact aZ6 (IX (by omega) _ _) Ck.out
             have Jw:(v-1)*1792<=6*1792:=Nat.mul_le_mul_right _ (by omega)
             have Fg:=zh ((ID (a:=a) (sb:=sb) (B:=Q.heap.size) (N:=(n:Int)) (mv:=mv) (gv:=.slice c k r) (sv:=.slice (some Fp) A L) (Gv:=.slice Fo k Dd) (gen:=gen) d.O Gn (by omega) hn1 Gl Gg (by rw[Bq];omega) v (by omega)) (wr.alloc (.cells (madeCells #[.int .i64 0] n) 3)) 0 true (.slice (some ⟨wr.heap.size,0,none⟩) n n) (List.replicate n 0) best E
               (fun C h=>Et.out C (Bk.trans ((Ae.mono Bk.size).trans h))) (ε.on Ae) (Fi.on Ae) ((OI.sepI Ig (by simp;omega) (fun i=>by rw[Bv];exact I64.zero)).mono Iy) (by simp) (fun i=>by rw[Bv];have:=d.O.lt.pos;omega) (by rw[show(fun j=>(List.replicate n (0:Int)).getD j 0)=fun _=>0 from funext Bv];exact⟨fun _=>0,fun j=>(bK d.O fun i _=>by rw[d.out.O.zero_mul]).symm⟩) (by omega) (by rw[Bq];omega))
             rw[show((0:Nat):Int)=0 from rfl,Bq] at Fg;have If:Hid ((fun j=>(List.replicate n (0:Int)).getD j 0)=fun _=>0):=aD (funext Bv);have Ci:=zh (aX ι (aN Ae (some sb)));have ξ:=zh (Ay.alloc (.cells (madeCells #[.int .i64 0] n) 3));have Hk:=zh Gh;clear Bc Bf Br Aq Bt Ed Gq Gl Gg Cq Bq Bs ζ Ae Bv Gh;go_wp2_with fail;refine Fg.mono ?_;rintro e Bh ⟨rfl,Fq,Gt,Fx,Dx,Ip,Eb,Gd⟩;have Cl:=zh Fx;have Hh:=zh (aX Ci Dx);have Hp:=zh (ξ.grown Dx fun g hg e=>by have J:=(ξ.lt hg).1;have:=aZ0 e;omega);have Hb:Hid (PP (aB P M Mod) (aC P M) n Gs v (j+1) Fq):=aD ⟨fun i hi u J Ac y Cz ζ=>Eb _ (Ax.1 i hi u J Ac y Cz ζ),fun i hi Io y Cz ζ=>by
               by_cases e:i=j
               . subst e;exact Gd y (by rw[If.out];exact Cz) ζ
               . exact Eb _ (Ax.2 i (by omega) Io y Cz ζ)⟩
             have Iq:Gt<=(v-1)*1792+(j+1)*256:=by have:=Hk.out;omega
             clear Fx Dx Ip Eb Gd x0 T U V W X;go_wp2_with fail;exact⟨⟨j+1,Fq,Gt,by omega,by push_cast;rfl,Cl,Hh,Hb,Iq,Hp⟩,by simp only[intOf];omega⟩
           . obtain rfl:A=j:=by omega
             have Eo:Hid (E1 (aB P M Mod) (aC P M) n Gs (v+1) best):=aD (Ax.full (by rw[Di.out];exact Nat.le_refl _));have Is:E<=v*1792:=by
               have J:(v-1)*1792+A*256<=(v-1)*1792+1792:=by omega
               have Ac:(v-1)*1792+1792=v*1792:=by rw[<-Nat.succ_mul];congr 1;omega
               omega
             have Hu:Hid (SI wr (.slice Ag A Ah) (cL F)):=aD (Hr.si (by rw[gG,<-f.out];omega) (fun j=>by
               by_cases D:j<(cL F).length
               . have:=Ff.out j D;exact I64.of_small (by omega) (by omega)
               . rw[aW (by omega)];exact I64.zero))
             have Er:=zh (JC wr k v (.slice Ag A Ah) (cL F) Hu (by omega) Cx (by rw[gG,<-f.out];omega) Ff);obtain⟨κ,Dw⟩:∃κ,κ=pU k v (cL F) (cL F).length:=⟨_,rfl⟩
             have He:Hid (κ=jU k v [] F):=aD (by rw[Dw,uJ k v F _ (by rw[gG];exact Nat.le_refl _),gG,List.take_length]);rw[<-Dw] at Er;obtain⟨Aa,Ab,Bd,Be⟩:=ε.blk;have Ce:=zh Be;have Cd:=zh Bd;have Av:=zh (rM ε.bst (by omega) Be);obtain⟨m,σ⟩:∃m,m=best.length:=⟨_,rfl⟩
             have Gz:=zh σ;have Im:m<=1000:=by
               rcases ε.bst with e|⟨e,_⟩
               . rw[σ,e];simp
               . omega
             obtain⟨θ,Cy⟩:∃θ,θ=cB (fun j=>best.getD j 0) m:=⟨_,rfl⟩
             have Ic:=zh Cy;have Kc:θ<=1000:=by rw[Cy];exact aZ6 (yC _ _) Im
             have Ez:Hid (∀C,SI C (.slice Aa m Ab) best->Calls Tryz.prog 29 #[.slice Aa m Ab] C (fun e w'=>e=.returned (.int .i64 (θ:Int))/\C=w')):=aD fun C h=>by have:=kU C (.slice Aa m Ab) best h (by rw[<-σ];omega);rwa[<-σ,<-Cy] at this
             rw[<-σ] at Cd Av Ce;have Jq:=zh Bf;clear Bc Bf Br Aq Bt Dw Bd Be σ Cy;go_wp2_with fail;refine Er.mono ?_;rintro e Bh ⟨rfl,rfl⟩;obtain⟨Jf,Jg,Jh,Ji,Jj,Jk,Ar,Bg,Dc⟩:=Cd.nine;go_upto_region 38 with fail;have Hq:=zh (Ay.below (aH wr) zr);have Ib:Hid (R.heap.size<=wr.heap.size):=aD ι.size;refine aG.start (S:=fun w'=>w'.cell? ⟨sb,8,none⟩=some (.int .i64 (E:Int))/\w'.cell? ⟨sb,7,none⟩=some (.slice Aa m Ab)) (by kernel_rfl) (⟨Dc,Bg⟩) (fun s=>?_);change aG _ _ _ _ 16 _ _ _;refine tq 0 ?_;refine tq 1 ?_;refine tq 2 ?_;refine tq 3 ?_;refine tq 4 ?_;refine tq 5 ?_;refine tq 6 ?_;refine tq 7 ?_;refine tq 8 ?_;refine tq 9 ?_;refine tq 11 ?_;try simp only[tz]
             refine aG.only (i:=10) (by kernel_rfl) rfl (fun K hK=>?_);go_simp;refine(Ez _ (Av.below (aH wr) zr)).mono ?_;rintro e Ej ⟨rfl,rfl⟩;have Gw:=aE (aH wr) Dc;have Gu:=aE (aH wr) Bg;refine hK.out _ _ (⟨Gw,Gu⟩) ?_;clear hK K s;intro s;try simp only[tz]
             refine tq 12 ?_;try simp only[tz]
             refine aG.only (i:=13) (o:=?op3) (by kernel_rfl) ?ho3 (fun K hK=>?_)
             case ho3=>(conv=>lhs;simp only[tdg,tdh,tdi])
             go_simp;obtain⟨Bi,Cr,Z,I,Bn,μ⟩:=uV wr 123 [.int .i64 (v:Int),.int .i64 (E:Int),.int .i64 (θ:Int),.int .i64 (κ:Int)];rw[Z,I];have Bl:=zh Bn;have Aj:=zh μ;have ξ:=zh (Ay.below μ zr);have b7:=aE μ Dc;have Fr:=aE μ Bg;clear Z I Bn μ;refine hK.out _ _ (⟨b7,Fr⟩) ?_;clear hK K s;intro s;try simp only[tz]
             refine aG.only (i:=14) (o:=?op4) (by kernel_rfl) ?ho4 (fun K hK=>?_)
             case ho4=>(conv=>lhs;simp only[tdg,tdh,tdi])
             refine nE rfl 123 64 4 32 _ Tryz.underlying64 Tryz.infoRnd rfl (by decide) (by decide) _ _ rfl R.heap.size (.slice Da lo.length Db) lo rfl ξ.out Cr 1 [.int .i64 (v:Int),.int .i64 (E:Int),.int .i64 (θ:Int),.int .i64 (κ:Int)] rfl rfl (fun j u D=>(by rw[Bl.out.cell j];exact D)) (by intro u Af;simp at Af;rcases Af with rfl|rfl|rfl|rfl<;>rfl) (by have:=Ak.out;omega) (aZ6 Ib Aj.size) ?_;intro Gy χ b δ τ;obtain⟨Bm,Bw,rfl⟩:=b.form';rw[aZ1,aZ2] at b|-;have Az:=zh b;have Dp:=zh ((ε.on Aj).grownR ξ δ Iz (by decide));have ψ:=zh (UP (aX ι (aN Aj (some sb))) δ (fun g hg=>(ξ.lt hg).1));have Au:=zh ((Cd.belowS Aj).grown δ (fun e=>(by have:=(ξ.lt e.symm).1;omega)));have Ha:=zh ((Ce.below Aj zr).grown δ (fun g hg e=>ξ.ne_oi (Ce.below Aj zr) (by decide) g e hg));have An:=Au.cell 8;have Ao:=Au.cell 7;simp only[List.getElem?_cons_zero,List.getElem?_cons_succ] at An Ao;clear b δ τ;refine hK.out _ _ (⟨An,Ao⟩) ?_;clear hK K s;intro s;try simp only[tz]
             refine aG.only (i:=15) (by kernel_rfl) rfl (fun K hK=>?_);go_simp;refine hK.out _ _ s (fun η=>?_);clear hK K;clear η;refine aG.done (by kernel_rfl) ?_;try simp only[tz]
             clear s;have Ek:=zh (rM Dp.bst (by omega) Ha);clear b7 Fr An Gw Gu Jf Jg Jh Ji Jj Jk Ar Bg Dc Hq Bl Aj ξ Ce Av Cd;have Bg:χ.cell? ⟨sb,7,none⟩=some (.slice Aa m Ab):=Ao;clear Ao;go_wp2_with fail;refine(Ez.out χ Ek).mono ?_;rintro e Ai ⟨rfl,rfl⟩;by_cases Gf:θ<κ
             . have In:decide ((θ:Int)<(κ:Int))=true:=decide_eq_true (by omega);have Dl:=zh (Ep.out χ best E v Dp ψ Cw Eo (.inr fun h=>by rw[<-He.out,<-h,<-Gz.out,<-Ic.out];exact Gf));go_upto_region 40 with fail
               go_quiet (fail)
               go_wp2_with fail;go_ret3;obtain⟨Bx,By,Bz,Ca,Eh⟩:=Dl.out;exact⟨_,_,best,rfl,Ek.below (bI χ _) zr,Bx,By,Bz,Ca,aA Eh ((bI χ _))⟩
             . have In:decide ((θ:Int)<(κ:Int))=false:=decide_eq_false (by omega);have Jv:¬θ<κ:=Gf;go_wp2_with fail;exact⟨⟨v+1,best,E,lo++[[.int .i64 (v:Int),.int .i64 (E:Int),.int .i64 (θ:Int),.int .i64 (κ:Int)]],Bm,Bw,by omega,by omega,by push_cast;rfl,by rw[aZ1,aZ2],Dp,ψ,Eo,by rw[Nat.add_sub_cancel];exact Is,aD (by rw[aZ1,aZ2,Ak.out];omega),Az⟩,by simp only[intOf];omega⟩
       . obtain rfl:v=k+1:=by omega
         have Jb:decide (((k+1:Nat):Int)<=(k:Int))=false:=decide_eq_false (by omega);have Kb:(k:Int)<((k+1:Nat):Int):=by omega
         have Dl:=zh (Ep wr best E k ε ι (by omega) Df (.inl zr));obtain⟨Aa,Ab,Bd,Be⟩:=ε.blk;have Av:=zh (rM ε.bst (by omega) Be);obtain⟨m,σ⟩:∃m,m=best.length:=⟨_,rfl⟩
         rw[<-σ] at Av Bd;have Bg:wr.cell? ⟨sb,7,none⟩=some (.slice Aa m Ab):=Bd.cell 7;clear Bd Be σ;go_upto_region 40 with fail
         go_quiet (fail)
         go_wp2_with fail;go_ret3;obtain⟨Bx,By,Bz,Ca,Eh⟩:=Dl.out;exact⟨_,_,best,rfl,Av.below (bI wr _) zr,Bx,By,Bz,Ca,aA Eh (bI wr _)⟩
end Go.Proofs.YtpfhoemohibniaaGreatDoor
