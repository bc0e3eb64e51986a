/- Parts. -/
import Derived.Test.YtnpfliklhbkonaaGreatDoorZA40
set_option maxRecDepth 99999
set_option maxHeartbeats 0
set_option linter.unusedSimpArgs false
set_option linter.unusedVariables false
namespace Go.Proofs.YtnpfliklhbkonaaGreatDoor
open Go.Proofs.Tryz
section
open Go.RowKit
theorem cr(w:Wo)(B a sb n k A gl v q ω sc:Nat)(P M N:Int)(Mq:LI)(mv:Va)(κ ψ:OA)(gen:LL)(best:LI)(o:∀ι,Below B w ι->GF ι a P M Mq)(Aa:B<=sb)
   (s:SrS (aD P M Mq) (aF P M) n gen a sb P M N mv (.slice κ A ω) (.slice ψ gl sc) w best k)(hq:aF P M=(q:Int))(Aq:2<=q)(y:A<=10)(At:1<=v)(η:v<=A)(Ae:1<=gl)(An:gl<=100)(hk:k<=65536)
   (x:gl*chN A v*(q-1)^(v-1)+k<=65536)(ε:(q-1)^(v-1)<=65536):
   Calls prog 81 #[.pointer sb,v] w (fun e w'=>∃z,e=.returned (.tuple #[.int .i64 z,z0])/\Below w w w'):=by
 obtain⟨Ak,Al,L,_⟩:=s.blk;have ξ:=zh L;have Ac:B<=w.heap.size:=aZ6 Aa (Nat.le_of_lt L.lt);have σ:=zh o;obtain⟨c,E⟩:=xE (chN A v);have Am:c<=1024:=by rw[E];exact E4 y
 have Ad:1<=c:=by
   rw[E];have key:∀m l,l<=m->1<=chN m l:=by
     intro m
     induction m with
     | zero => intro l Ag; obtain rfl : l = 0 := by omega
               exact zr
     |succ m ih=>
       intro l Ag;cases l with
       |zero=>exact zr
       |succ l=>have:=ih l om;simp only[chN];omega
   exact key A v η
 obtain⟨p,F⟩:=xE ((q-1)^(v-1));have Ah:1<=p:=by rw[F];exact Nat.pow_pos om
 have Ar:q<=256:=by have:=(aM P M).2;omega
 have ρ:Hid (∀w',Calls prog 137 #[A,v,.int .i64 65536] w' fun e w2=>e=.returned (.tuple #[c,z0])/\Below w'.heap.size w' w2):=aG fun w'=>by rw[E];exact QP w' A v y η
 have S:Hid (∀w',Calls prog 138 #[.int .i64 ((q-1:Nat):Int),.int .i64 ((v-1:Nat):Int),.int .i64 65536] w' (fun e w2=>e=.returned (.tuple #[p,z0])/\w'=w2)):=aG fun w'=>by rw[F];exact bw w' (q-1) (v-1) om om om ε
 rw[<-E,<-F] at x;rw[<-F] at ε;have T:Hid (∀w' u,SI w' u [(gl:Int),(c:Int),(p:Int)]->Calls prog 139 #[.int .i64 ((65536-k:Nat):Int),u] w' (fun e w2=>∃z,e=.returned (.tuple #[.int .i64 z,z0])/\w'=w2)):=aG fun w' u Ai=>by
   refine(NI w' u _ (fun j=>if j=0 then gl else if j=1 then c else p) (65536-k) Ai (fun j Af=>?_) (fun j=>?_) ?_ om).mono ?_
   . rcases j with _|_|_|j
     . rfl
     . rfl
     . rfl
     . simp at Af;omega
   . show 1<=if j=0 then gl else if j=1 then c else p;split
     . exact Ae
     . split
       . exact Ad
       . exact Ah
   . show 1*gl*c*p<=_;rw[Nat.one_mul];omega
   . rintro e w2⟨rfl,rfl⟩;exact⟨_,rfl,rfl⟩
 obtain⟨O,ζ⟩:=xE (q-1);obtain⟨Q,θ⟩:=xE (v-1);obtain⟨D,δ⟩:=xE (65536-k);rw[<-ζ,<-θ] at S;rw[<-δ] at T;have As:(q:Int)-1=(O:Int):=om;have Au:(v:Int)-1=(Q:Int):=om;have Ap:(65536:Int)-(k:Int)=(D:Int):=om;have Ao:D<=65536:=om;have Av:IntKind.i64.wrap (D:Int)=(D:Int):=IntWalk.i64_in _ om;obtain⟨W,X,Y,Z,b,d,G,f,H⟩:=L.nine;have φ:=zh hq;have Aj:Hid (SI w (():aV) []):=aG (SI.none_ w);clear o s L hq x E F ζ θ δ;go_enter func81,ntmps81;go_wp2_with fail;apply(ρ.out w).mono;rintro e w1⟨rfl,I⟩;have μ:=zh I;have π:=zh (ξ.belowS I);have τ:=zh (σ.out w1 (I.mono Ac));clear I W X Y Z b d G f H;obtain⟨W,X,Y,Z,b,d,G,f,H⟩:=π.nine;go_wp2_with fail;apply(fI w1 a P M Mq τ).mono;rintro e w2⟨rfl,rfl⟩;rw[φ.out];go_wp2_with fail;apply(S.out w1).mono;rintro e w2⟨rfl,rfl⟩;go_upto_region 7 with fail;refine tb 19 H G fun C=>?_;refine tq 0 ?_;refine tq 1 ?_;refine tq 2 ?_;refine tq 3 ?_;refine tq 4 ?_;refine tq 5 ?_;refine tq 6 ?_;refine tq 7 ?_;refine tq 8 ?_;refine tq 9 ?_;refine tq 10 ?_;refine tq 11 ?_;try simp only[tz]
 refine tp 12 fun K hK=>?_;go_simp;obtain⟨R,i,g,h,t,J⟩:=uP w1 3 [(gl:aV),(c:aV),(p:aV)];rw[g,h];have ν:=zh (aC μ J);have r:RI R i [(gl:Int),(c:Int),(p:Int)]:=t;have χ:Hid (SI R (.slice i 3 3) [(gl:Int),(c:Int),(p:Int)]):=aG (r.si sM (fun j=>(by rcases j with _|_|_|j;exact I64.of_small (by show _<=(gl:Int);omega) (by show(gl:Int)<=_;omega);exact I64.of_small (by show _<=(c:Int);omega) (by show(c:Int)<=_;omega);exact I64.of_small (by show _<=(p:Int);omega) (by show(p:Int)<=_;omega);exact I64.zero)));have U:=aE J H;have V:=aE J G;clear g h t J r;refine hK.out _ _ (⟨U,V⟩) ?_;clear hK K C;intro C;try simp only[tz]
 refine tn 13 fun K hK=>?_;go_simp;apply(T.out R _ χ).mono;rintro e Aw⟨z,rfl,rfl⟩;refine hK.out _ _ (⟨U,V⟩) ?_;clear hK K C;intro C;try simp only[tz]
 refine tq 14 ?_;refine tq 15 ?_;refine tq 16 ?_;refine tq 17 ?_;try simp only[tz]
 refine tn 18 fun K hK=>?_;go_simp;refine hK.out _ _ C fun _=>?_;refine tw ?_;try simp only[tz]
 clear C;go_wp2;go_ret2;exact⟨_,rfl,ν.out⟩
def Btw(lo hi:Nat)(w:Wo)(Φ:Wo->Prop):Prop:=hi<=w/\∀w2:Wo,(∀p:Addr,lo<=p.block->p.block<hi->w2.cell? p=w.cell? p)->Φ w2
section
variable {lo hi:Nat} {w w':Wo} {Φ:Wo->Prop}
theorem Btw.of_sep(h:Sep lo w Φ):Btw lo w w Φ:=⟨zr,h⟩
theorem Btw.keep(h:Btw lo hi w Φ)(E:w.heap.size<=w'.heap.size)(D:∀p:Addr,lo<=p.block->p.block<hi->w'.cell? p=w.cell? p):Btw lo hi w' Φ:=
 ⟨aZ6 h.1 E,fun w2 C=>h.2 w2 fun p A B=>(C p A B).trans (D p A B)⟩
theorem Btw.on(h:Btw lo hi w Φ)(A:Below w w w'):Btw lo hi w' Φ:=h.keep A.size fun p _ B=>A.cell (aY1 B h.1)
theorem Btw.grown{row:Option Nat}(h:Btw lo hi w Φ)(A:w.grownBy w' row)(C:∀g,row=some g->g<lo\/hi<=g):Btw lo hi w' Φ:=h.keep A.size fun p D B=>World.cell?_of_block (w:=w) (A.block _ (aY1 B h.1) fun e=>oA (C _ e.symm))
theorem Btw.sep{B:Nat}(h:Btw lo hi w Φ)(hB:B<=lo):Sep B w Φ:=fun w2 A=>h.2 w2 fun p C D=>A p (aZ6 hB C) (aY1 D h.1)
end
def I2(O:aQ)(q:Int)(n:Nat)(Gs:List (LL))(v:Nat)(best:LI):Prop:=
 ∀j,j<Gs.length->∀u,1<=u->u<v->∀y,Cmb O q (Gs j []) 0 u true (fun _=>0) y->cG y n≠0->BdW n best (cG y n)
section
variable {O:aQ} {q:Int} (hO:O.Fld q) {n:Nat} {gen:LL} {p:LI}
include hO
theorem E1(hA:gT O q n gen p)(hk:0<gen.length){F:List (List Nat)}{Gs:List (LL)}(R:F.length=Gs.length)(D:0<F.length)(C:∀j,j<F.length->ED O n gen (F j []) (Gs j []))
 {v:Nat}(T:2<=v){best:LI}(G:I2 O q n Gs v best)(hR:∀j,j<Gs.length->Rows q n (Gs j [])):best≠[]:=by
 obtain⟨x,P,B,_⟩:=ZG hO hA (S:=[]) (by simpa using hk);have E:=C 0 D;have M:=E.row x P
 --some row of the first matrix is not 0
 have I:∃i,i<(Gs 0 []).length/\∃j,j<n/\ent (Gs 0 []) i j≠0:=by refine aY0 fun K=>?_;obtain⟨j,A,Q⟩:=B;refine Q ?_;rw[M j];refine bR hO fun i hi=>?_;have:ent (Gs 0 []) i j=0:=aY0 fun h=>K ⟨i,hi,j,A,h⟩;rw[this,hO.mul_zero]
 obtain⟨i,hi,j,A,J⟩:=I;have hq:=hO.lt.pos;have N:=(hR 0 om i hi).2;have L:(fun j=>O.add (0:Int) (O.mul 1 (ent (Gs 0 []) i j)))=ent (Gs 0 []) i:=funext fun j=>by have:=N j;change 0<=ent (Gs 0 []) i j/\ent (Gs 0 []) i j<q at this;rw[hO.one_mul this.1 this.2,hO.zero_add this.1 this.2]
 have H:Cmb O q (Gs 0 []) 0 1 true (fun _=>0) (ent (Gs 0 []) i):=by refine Cmb.step i 1 (aZ5 _) om ⟨om,om⟩ (fun _=>rfl) ?_;rw[L];exact Cmb.nil _ _ _
 exact(G 0 om 1 zr om _ H (LP ⟨j,A,J⟩)).1
theorem VN(hA:gT O q n gen p)(hk:0<gen.length){F:List (List Nat)}{Gs:List (LL)}(K:F.length=Gs.length)(I:0<F.length)(hI:∀S,S∈F->GL O n gen S)(H:∀j,j<F.length->ED O n gen (F j []) (Gs j []))(hR:∀j,j<Gs.length->Rows q n (Gs j []))
 {v:Nat}(Z:1<=v){best:LI}(G:OG O q n gen best)(J:I2 O q n Gs (v+1) best)(T:gen<=v\/cG (fun j=>best j 0) n<lX gen v [] F):
 best=n/\aZ O gen (fun j=>best j 0)/\cG (fun j=>best j 0) n≠0/\∀x,aZ O gen x->(∃j,j<n/\x j≠0)->cG (fun j=>best j 0) n<=cG x n:=by
 have V:=E1 hO hA hk K I H om J hR;rcases G with e|⟨M,_,N,P⟩
 .exact aB e V
 refine⟨M,N,P,fun x W Q=>?_⟩;refine L3 hO K (fun j B=>?_) (fun j B u A C y X D=>(J j om u A om y X D).2) (T.elim (fun h=>.inl ⟨I,h⟩) .inr) W Q;have U:F j []∈F:=by rw[aZ4,aZ3 B];exact aY6 B
 have E:=hI _ U;refine⟨H j B,?_,fun i hi=>E.ris.lt hi⟩;rw[List.nodup_iff_pairwise_ne];rw[List.pairwise_iff_getElem];intro a b R G Y;have key:∀d a,a+d+1<(F j []).length->(F j []).getD a 0<(F j []).getD (a+d+1) 0:=by
  intro d
  induction d with
  |zero=>intro a h;have A:=(E.ris (a+1) (by rw[cV];exact h)).2.2 om;rw[Nat.add_sub_cancel,oV om,oV h] at A;exact Int.ofNat_lt.1 A
  |succ d ih=>intro a h;have A:=ih a om;have C:=(E.ris (a+(d+1)+1) (by rw[cV];exact h)).2.2 om;rw[Nat.add_sub_cancel,oV om,oV h] at C;have D:=Int.ofNat_lt.1 C;rw[show a+(d+1)=a+d+1 from om] at D|-;omega
 have A:=key (b-a-1) a om;rw[show a+(b-a-1)+1=b from om] at A;generalize F j []=L at*;rw[aZ4,aZ3 R,aZ4,aZ3 G] at A;simp only[Option.getD_some] at A;omega
end
theorem infoMat:(prog.info? 25).map (fun i=>(i.zero,i.size,i.bytes))=some (some (():aV),1,24):=by kernel_rfl
theorem infoRnd:(prog.info? 160).map (fun i=>(i.zero,i.size,i.bytes))=some (some (.agg #[z0,z0,z0,z0]),4,32):=by kernel_rfl
structure RnW(O:aQ)(q:Int)(n:Nat)(gen:LL)(a sb:Nat)(P M N:Int)(mv gv:Va)(w2 wr:Wo)(sv rk:Va)(F:List (List Nat))(tr:Nat)(us:List Va)(Gs:List (LL)):Prop where
 blk:Blk wr sb 151 [.pointer a,(P:aV),(M:aV),mv,(N:aV),gv,sv,.slice none 0 0,.int .i64 0]
 gens:RO w2 25 1 wr sv (us.map fun u=>[u])
 len:Gs.length=us.length
 sys:∀j,j<us.length->ED O n gen (F j []) (Gs j [])/\(Rows q n (Gs j [])/\cH O (Gs j []) gen)/\∃lo hi,sb<lo/\Btw lo hi wr (fun w2=>SS w2 (us j (():aV)) (Gs j []))/\(∀g,sv.ownBlock=some g->g<lo\/hi<=g)/\∀g,rk.ownBlock=some g->g<lo\/hi<=g
 rks:OI w2 wr rk ((dD F).take tr)
 ap:∀g,sv.ownBlock=some g->g≠sb/\rk.ownBlock≠some g
 ar:∀g,rk.ownBlock=some g->g≠sb
 bel:Below w2 w2 wr
 sbl:w2<=sb
section
variable {O:aQ} {q:Int} {n:Nat} {gen:LL} {a sb:Nat} {P M N:Int} {mv gv:Va} {w2 wr w1:Wo} {sv rk:Va} {F:List (List Nat)} {tr:Nat} {us:List Va} {Gs:List (LL)}
theorem RnW.on(h:RnW O q n gen a sb P M N mv gv w2 wr sv rk F tr us Gs)(A:Below wr wr w1):RnW O q n gen a sb P M N mv gv w2 w1 sv rk F tr us Gs:=by refine⟨h.blk.belowS A,h.gens.below A zr,h.len,fun j I=>?_,h.rks.below A zr,h.ap,h.ar,h.bel.trans (A.mono h.bel.size),h.sbl⟩;obtain⟨B,C,lo,hi,D,E,G,H⟩:=h.sys j I;exact⟨B,C,lo,hi,D,E.on A,G,H⟩
theorem RnW.more {D wA : Wo} {u B : Va} {G : LL} {lo hi : Nat} (h : RnW O q n gen a sb P M N mv gv w2 wr sv rk F tr us Gs) (b : ED O n gen (F us.length []) G) (hR : Rows q n G /\ cH O G gen) (V : sb < lo) (hB : Btw lo hi wr (fun w2 => SS w2 u G))
 (X:∀g,sv.ownBlock=some g->g<lo\/hi<=g)(f:∀g,rk.ownBlock=some g->g<lo\/hi<=g)
 (hA:Below wr.heap.size wr wA)(o:wr.heap.size<wA.heap.size)(Z:RO w2.heap.size 25 1 D B ((us.map fun u=>[u])++[[u]]))(g7:wA.grownBy D sv.ownBlock)(k:B.ownBlock=sv.ownBlock\/B.ownBlock=some wA.heap.size):
 RnW O q n gen a sb P M N mv gv w2 (D.setCell (sb 6 none) B) B rk F tr (us++[u]) (Gs++[G]):=by
 have H:wr.grownBy D sv.ownBlock:=bB (aP hA _) g7;have I:=aU D sb 6 B;have l:sb<wr.heap.size:=h.blk.lt;have m:=h.bel.size;have K:∀g,B.ownBlock=some g->sv.ownBlock=some g\/g=wA.heap.size:=fun g A=>by
  rcases k with e|e
  .exact .inl (by rw[<-e];exact A)
  .rw[e] at A;exact .inr (aZ0 A).symm
 have W:∀g,B.ownBlock=some g->g≠sb:=fun g A=>by
  rcases K g A with C|C
  .exact(h.ap g C).1
  .omega
 have b7:=h.bel.grown H h.bel.size fun g A=>(h.gens.lt A).1;have tr:∀{lo hi:Nat} {Φ:Wo->Prop},sb<lo->Btw lo hi wr Φ->(∀g,sv.ownBlock=some g->g<lo\/hi<=g)->Btw lo hi (D.setCell (sb 6 none) B) Φ:=fun C R J=>(R.grown H J).grown I fun g e=>by cases e;exact .inl C
 refine⟨?_,?_,by rw[aZ1,aZ1,h.len];rfl,fun j d=>?_,(h.rks.grown H fun g A e=>(h.ap g e).2 A).grown I fun g A e=>by cases e;exact h.ar _ A rfl,fun g A=>⟨W g A,fun e=>?_⟩,h.ar,b7.grown I b7.size fun g e=>by cases e;exact h.sbl,h.sbl⟩
 .exact(h.blk.grown H fun e=>(h.ap _ e.symm).1 rfl).set_ 6 B
 .rw[List.map_append];exact Z.grown I fun g A e=>by cases e;exact W _ A rfl
 .rw[aZ1,aZ2] at d;by_cases S:j<us.length
  .obtain⟨C,R,i,c,J,T,U,Y⟩:=h.sys j S;have L:(Gs++[G]).getD j []=Gs j []:=by simp[List.getD,aY2 (show j<Gs.length by rw[h.len];exact S)]
   have Q:(us++[u]).getD j (.slice none 0 0)=us j (.slice none 0 0):=by simp[List.getD,aY2 S]
   rw[L,Q];refine⟨C,R,i,c,J,tr J T U,fun g A=>?_,Y⟩;rcases K g A with E|E
   .exact U g E
   .right;have:=T.1;omega
  .obtain rfl:j=us.length:=om;have L:(Gs++[G]).getD us.length []=G:=by simp[List.getD,<-h.len]
   have Q:(us++[u]).getD us.length (.slice none 0 0)=u:=by simp[List.getD]
   rw[L,Q];refine⟨b,hR,lo,hi,V,tr V hB X,fun g A=>?_,f⟩;rcases K g A with E|E
   .exact X g E
   .right;have:=hB.1;omega
 .rcases K g A with C|C
  .exact(h.ap g C).2 e
  .have:=(h.rks.lt e).2;omega
theorem RnW.rank{E wA:Wo}{C:Va}(hA:Below wr.heap.size wr wA)(X:wr.heap.size<wA.heap.size)(h:RnW O q n gen a sb P M N mv gv w2 wr sv rk F tr us Gs)
 (S:OI w2.heap.size E C ((dD F).take tr++[(dD F).getD tr 0]))(U:tr<F.length)(g7:wA.grownBy E rk.ownBlock)(V:C.ownBlock=rk.ownBlock\/C.ownBlock=some wA.heap.size):
 RnW O q n gen a sb P M N mv gv w2 E sv C F (tr+1) us Gs:=by
 have D:wr.grownBy E rk.ownBlock:=bB (aP hA _) g7;have G:∀g,C.ownBlock=some g->rk.ownBlock=some g\/g=wA.heap.size:=fun g A=>by
  rcases V with e|e
  .exact .inl (by rw[<-e];exact A)
  .rw[e] at A;exact .inr (aZ0 A).symm
 have W:sb<wr.heap.size:=h.blk.lt;refine⟨h.blk.grown D fun e=>h.ar _ e.symm rfl,h.gens.grown D fun g A e=>(h.ap g A).2 e,h.len,fun j T=>?_,?_,fun g A=>⟨(h.ap g A).1,fun e=>?_⟩,fun g A=>?_,h.bel.grown D h.bel.size fun g A=>(h.rks.lt A).1,h.sbl⟩
 .obtain⟨B,L,lo,hi,Q,H,R,I⟩:=h.sys j T;refine⟨B,L,lo,hi,Q,H.grown D I,R,fun g A=>?_⟩;rcases G g A with J|J
  .exact I g J
  .right;have:=H.1;omega
 .have e:(dD F).take (tr+1)=(dD F).take tr++[(dD F).getD tr 0]:=by
   have K:tr<(dD F).length:=by rw[jC];exact U
   rw[List.take_add_one,aZ3 K,aZ4,aZ3 K];rfl
  rw[e];exact S
 .rcases G g e with B|B
  .exact(h.ap g A).2 B
  .have:=(h.gens.lt A).2;omega
 .rcases G g A with B|B
  .exact h.ar g B
  .omega
end
theorem fi(n:Nat)(h:n<=1000000)(w:Wo):(Instr.makeSlice 149 (n:aV) (n:aV)).run prog w=
 .ok (.slice w n n) (w.alloc (.cells (madeCells #[()] n) 25)):=
 run_make_row' (P:=prog) 149 25 (():aV) 24 underlying149 infoMat rfl .i64 .i64 n om om w
theorem yH(w:Wo)(t:TypeId)(n:Nat):∃w' g,w.alloc (.cells (madeCells #[()] n) t)=w'/\w.heap.size=g/\Blk w' g t (List.replicate n (():aV))/\Below w w w':=by
 have e:(madeCells #[()] n)=(List.replicate n (Value.slice none 0 0)).toArray:=by rw[<-toList_madeCells_one]
 rw[e];exact⟨_,_,rfl,rfl,Blk.new w t _,aH w _⟩
theorem XE(w:Wo)(t:TypeId)(n:Nat):∃w' g,(w.alloc (.cells (madeCells #[()] n) t)).drew=w'/\w.heap.size=g/\Blk w' g t (List.replicate n (():aV))/\Below w w w':=by obtain⟨w',g,A,B,h,C⟩:=yH w t n;rw[A];exact⟨_,g,rfl,B,h.belowS (aI w'),aC C (aI w')⟩
structure TWp(B t0 tb n gr gg k:Nat)(rb:Nat->Nat)(ru:Nat->Va)(τ:Nat->Nat)(w:Wo):Prop where
 t0lt:t0<B
 lo:∀g,τ g≠0->B<=g/\g<w.heap.size
 t1:τ tb=1
 t2:τ gr=2
 t3:τ gg=3
 t4:∀b,b<k->τ (rb b)=4+2*b
 box:Blk w tb 237 [(n:aV),.slice gr n n,.slice gg n n]
 reps:Blk w gr 25 ((List.range n).map fun b=>if b<k then Value.slice (some ⟨rb b,0,none⟩) n n else .slice none 0 0)
 gens:Blk w gg 25 ((List.range n).map fun _=>Value.slice none 0 0)
 row:∀b,b<k->Blk w (rb b) 22 ((List.range n).map fun x=>if x=b then ru b else .slice none 0 0)
 rep:∀b,b<k->jR t0 τ w (ru b) (idP n)
section
variable {B t0 tb n gr gg k:Nat} {rb:Nat->Nat} {ru:Nat->Va} {τ:Nat->Nat} {w w' w1 w2:Wo}
theorem PD(n:Nat)(f:Nat->Va)(h:∀b,b<n->f b=.slice none 0 0):(List.range n).map f=List.replicate n (():aV):=by refine eK sM fun i A B=>?_;simp only[List.getElem_map,List.getElem_range,List.getElem_replicate];exact h i (by simpa using A)
theorem TWp.start{w:Wo}(M:t0<B)(hB:B<=tb/\B<=gr/\B<=gg)(I:tb≠gr)(J:tb≠gg)(K:gr≠gg)(F:Blk w tb 237 [(n:aV),.slice gr n n,.slice gg n n])(G:Blk w gr 25 (List.replicate n (():aV)))(H:Blk w gg 25 (List.replicate n (():aV))):
 TWp B t0 tb n gr gg 0 (fun _=>0) (fun _=>.slice none 0 0) (fun g=>if g=tb then 1 else if g=gr then 2 else if g=gg then 3 else 0) w:=by
 refine⟨M,fun g L=>?_,by simp,?_,?_,fun b A=>aB A (aY5 _),F,?_,?_,fun b A=>aB A (aY5 _),fun b A=>aB A (aY5 _)⟩
 .by_cases C:g=tb
  .subst C;exact⟨hB.1,F.lt⟩
  .by_cases D:g=gr
   .subst D;exact⟨hB.2.1,G.lt⟩
   .by_cases E:g=gg
    .subst E;exact⟨hB.2.2,H.lt⟩
    .simp[C,D,E] at L
 .simp[Ne.symm I]
 .simp[Ne.symm J,Ne.symm K]
 .rw[PD n _ fun b _=>by rw[iN (aY5 _)]];exact G
 .rw[PD n _ fun b _=>rfl];exact H
theorem TWp.size(h:TWp B t0 tb n gr gg k rb ru τ w):B<=w.heap.size:=by have:=h.lo tb (by rw[h.t1];decide);omega
theorem TWp.step(h:TWp B t0 tb n gr gg k rb ru τ w)(hk:k<n){gk:Nat}{u:Va}(j:w<=gk)(V:Blk w1 gk 22 (List.replicate n (():aV)))(I:Below w w w1)
 (F:Below (w1.setCell ⟨gr,k,none⟩ (.slice gk n n)).heap.size (w1.setCell ⟨gr,k,none⟩ (.slice gk n n)) w2)(Q:OI (w1.setCell ⟨gr,k,none⟩ (.slice gk n n)).heap.size w2 u (idP n))(hn:n<=1000):
 TWp B t0 tb n gr gg (k+1) (fun b=>if b=k then gk else rb b) (fun b=>if b=k then u else ru b) (fun g=>if g=gk then 4+2*k else τ g) (w2.setCell ⟨gk,k,none⟩ u):=by
 have o:=I.size;have d:=F.size;have K:(w1.setCell ⟨gr,k,none⟩ (.slice gk n n)).heap.size=w1.heap.size:=by simp[World.setCell]
 have W:(w2.setCell ⟨gk,k,none⟩ u).heap.size=w2.heap.size:=by simp[World.setCell]
 rw[K] at d;have l:=V.lt;have m:=h.size;have O:∀{g:Nat},τ g≠0->g≠gk:=fun hn e=>by have:=(h.lo _ hn).2;omega
 have C:τ gr=2:=h.t2
 --blocks of the tower but gr
 have S:∀{g:Nat} {t:TypeId} {cs:List Va},τ g≠0->g≠gr->Blk w g t cs->Blk (w2.setCell ⟨gk,k,none⟩ u) g t cs:=fun G P H=>(((H.belowS I).far (p:=⟨gr,k,none⟩) P _).belowS F).far (p:=⟨gk,k,none⟩) (O G) u;have J:∀{g t:Nat},τ g=t->t≠0->(if g=gk then 4+2*k else τ g)=t:=fun e hn=>by rw[iN (O (by rw[e];exact hn))];exact e
 have Z:∀{v:Va} {p:LI},jR t0 τ w v p->jR t0 (fun g=>if g=gk then 4+2*k else τ g) (w2.setCell ⟨gk,k,none⟩ u) v p:=fun D=>by
  refine⟨D.pos,D.si.moved fun q hq Y=>World.cell?_of_block ?_,fun g A=>?_,D.far⟩
  .have G:=D.own _ hq;have a:q.block≠gr:=fun e=>by rw[e,C] at G;cases G
   have c:q.block≠gk:=om;refine(Below.heap_setCell w2 ⟨gk,k,none⟩ u q.block c).trans ?_;refine(F.block q.block (by rw[K];omega)).trans ?_;exact(Below.heap_setCell w1 ⟨gr,k,none⟩ _ q.block a).trans (I.block q.block Y)
  .have:=D.lt A;show(if g=gk then _ else τ g)=0;rw[iN om];exact D.own g A
 refine⟨h.t0lt,fun g A=>?_,J h.t1 dC,J h.t2 dC,J h.t3 dC,fun b H=>?_,S (by rw[h.t1];decide) (fun e=>by have:=h.t1;rw[e,C] at this;cases this) h.box,?_,S (by rw[h.t3];decide) (fun e=>by have:=h.t3;rw[e,C] at this;cases this) h.gens,fun b H=>?_,fun b H=>?_⟩
 .rw[W];by_cases e:g=gk
  .omega
  .have U:(if g=gk then 4+2*k else τ g)≠0:=A;rw[iN e] at U;have:=h.lo g U;omega
 .by_cases e:b=k
  .subst e;simp
  .simp only[iN e];exact J (h.t4 b om) om
 .have E:=(((h.reps.belowS I).set_ k (.slice gk n n)).belowS F).far (p:=⟨gk,k,none⟩) (O (by rw[C];decide)) u;have L:(List.range n).map (fun b=>if b<k+1 then Value.slice (some ⟨if b=k then gk else rb b,0,none⟩) n n else .slice none 0 0)=((List.range n).map fun b=>if b<k then Value.slice (some ⟨rb b,0,none⟩) n n else .slice none 0 0).set k (.slice gk n n):=by
   refine eK sM fun i X E=>?_;simp only[List.getElem_set,List.getElem_map,List.getElem_range];by_cases e:i=k
   .subst e;simp
   .have M:¬k=i:=fun h=>e h.symm;have f:(i<k+1)=(i<k):=propext ⟨fun h=>om,fun h=>om⟩;rw[iN M,iN e];by_cases T:i<k
    .rw[iP T,iP (show i<k+1 from om)]
    .rw[iN T,iN (show ¬i<k+1 from om)]
  rw[L];exact E
 .by_cases e:b=k
  .subst e;simp only[if_true,eq_self];have E:=((V.far (p:=⟨gr,b,none⟩) (fun e=>by have:=(h.lo gr (by rw[C];decide)).2;simp at e;omega) (.slice gk n n)).belowS F).set_ b u;have L:(List.range n).map (fun x=>if x=b then u else Value.slice none 0 0)=(List.replicate n (Value.slice none 0 0)).set b u:=by
    refine eK sM fun i X E=>?_;simp only[List.getElem_set,List.getElem_map,List.getElem_range,List.getElem_replicate];by_cases e:i=b
    .subst e;simp
    .have M:¬b=i:=fun h=>e h.symm;rw[iN e,iN M]
   rw[L];exact E
  .simp only[iN e];have N:b<k:=om;exact S (by rw[h.t4 b N];omega) (fun e=>by have:=h.t4 b N;rw[e,C] at this;omega) (h.row b N)
 .by_cases e:b=k
  .subst e;simp only[if_true,eq_self];have hi:=IsP.id n;have R:OI w1 (w2.setCell ⟨gk,b,none⟩ u) u (idP n):=by
    rw[K] at Q;exact Q.grown (aU w2 gk b u) fun g A e=>by injection e with e;have:=Q.lt A;omega
   refine⟨by rw[hi.len];omega,R.si (by rw[hi.len];omega) (hi.i64 hn),fun g A=>?_,fun g A e=>oB (R.lt A) h.t0lt⟩;have:=R.lt A;show(if g=gk then _ else τ g)=0;rw[iN om];exact eJ fun P=>by have:=(h.lo g P).2;omega
  .simp only[iN e];exact Z (h.rep b om)
def vM(n:Nat):fH:=fun b x=>if x=b/\b<n then some (idP n) else none
theorem TWp.done(h:TWp B t0 tb n gr gg n rb ru τ w):TW ⟨B,tb,n,gr,gg,rb,t0⟩ ⟨vM n,fun _=>[],fun _=>.slice none 0 0,fun b x=>if x=b then ru b else .slice none 0 0,fun _=>[],τ⟩ w:=by
 refine⟨h.t0lt,h.lo,h.t1,h.t2,h.t3,h.t4,fun b A g F=>by simp[Value.ownBlock] at F,h.box,?_,h.gens,h.row,fun b x A G=>?_,fun b A=>RO.nil _ _ _ _,fun b A=>rfl,fun b A k hk=>aB hk (aY5 _)⟩
 .have C:=h.reps;have D:(List.range n).map (fun b=>if b<n then Value.slice (some ⟨rb b,0,none⟩) n n else .slice none 0 0)=(List.range n).map fun b=>Value.slice (some ⟨rb b,0,none⟩) n n:=by
   refine eK sM fun i E C=>?_;simp only[List.getElem_map,List.getElem_range];rw[iP (by simpa using E)]
  rw[D] at C;exact C
 .show A3 t0 τ w (if x=b then ru b else .slice none 0 0) (vM n b x);unfold vM;by_cases e:x=b
  .rw[iP e,iP ⟨e,A⟩];exact h.rep b A
  .rw[iN e,iN (fun h=>e h.1)];rfl
end
theorem ZA(n:Nat):vE n (vM n):=by
 have key:∀b x r,vM n b x=some r->x=b/\b<n/\r=idP n:=fun b x r h=>by
  unfold vM at h;split at h
  .rename_i e;exact⟨e.1,e.2,(aZ0 h).symm⟩
  .cases h
 refine⟨fun b x r h=>?_,fun b x r h i hi=>?_,fun b x r h=>?_,fun b x r h=>(key b x r h).2.1,fun b A=>by unfold vM;rw[iP ⟨rfl,A⟩]⟩
 .obtain⟨_,_,rfl⟩:=key b x r h;exact IsP.id n
 .obtain⟨_,A,rfl⟩:=key b x r h;exact eV om
 .obtain⟨rfl,A,rfl⟩:=key b x r h;exact eV A
theorem ZB(n:Nat)(G:jM)(A:∀c g,¬G c g):iR n 0 (vM n) G:=by
 refine⟨ZA n,⟨fun c g _ h=>(A c g h).elim,fun c x r g _ _ _ h=>(A c g h).elim,fun c x r _ h=>?_,fun c g _ _ h=>(A _ g h).elim⟩,fun c g _ h=>(A c g h).elim,fun g h=>A n g h⟩;unfold vM at h;split at h
 .obtain rfl:=aZ0 h;exact .one
 .cases h
theorem eo(w:Wo)(n t0:Nat)(hn:n<=64)(χ:t0<w):Calls prog 97 #[n] w (fun e w'=>∃(F:TwF) (V:TwV),e=.returned (.pointer F.tb)/\F.n=n/\F.B=w.heap.size/\F.t0=t0/\TW F V w'/\V.R=vM n/\(∀c,V.gl c=[])/\Below w w w'):=by
 have Ao:=fun(w:Wo)=>BK n om w;have Ap:=fun(w:Wo)=>fi n om w;go_enter func97,ntmps97;go_upto_region 1 with fail;have T:=zh (bE w);go_cut [3] from 5 to 12 (fun t3 wc=>∃(tb:Nat) (τ:Nat->Nat) (gr gg:Nat),t3=.pointer tb/\Hid (TWp w t0 tb n gr gg 0 (fun _=>0) (fun _=>.slice none 0 0) τ wc)/\Hid (Below w w wc))
 case first=>
  refine bY.start (S:=fun _=>True) kr (trivial) (fun D=>?_);change bY _ _ _ _ 8 _ _ _;have s:=aI w;generalize w.drew=ω at s D|-;have A:=zh s;clear T;clear s;refine tq 0 ?_;refine tq 1 ?_;refine tq 3 ?_;try simp only[tz]
  refine bY.two (i:=2) (j:=4) (oi:=?opa2) (oj:=?opb2) kr ?hoa2 ?hob2 (fun K hK=>?way12) (fun K hK=>?way22)
  case hoa2=>(conv=>lhs;simp only[tdg,tdh,tdi])
  case hob2=>(conv=>lhs;simp only[tdg,tdh,tdi])
  case way12=>
   go_simp;obtain⟨Ak,gr,H,G,C,E⟩:=yH ω 25 n;rw[H,G];have a:w<=gr:=(oA A.size)
   replace A:=zh (aC A E);have M:=zh C;clear H G C E;refine hK.out _ _ (trivial) ?_;clear hK K D;intro D;try simp only[tz]
   refine tp 4 fun K hK=>?_;go_simp;obtain⟨Al,gg,H,G,C,E⟩:=yH Ak 25 n;rw[H,G];have t:w<=gg:=(oA A.size)
   have v:gr<gg:=(oA M.lt)
   have l:=zh (Nat.ne_of_lt v);replace M:=zh (M.belowS E);replace A:=zh (aC A E);have L:=zh C;clear H G C E;refine hK.out _ _ (trivial) ?_;clear hK K D;intro D;try simp only[tz]
   refine tq 5 ?_;try simp only[tz]
   refine tp 6 fun K hK=>?_;go_simp;obtain⟨Ar,tb,H,G,C,E⟩:=aR Al 237 [(n:aV),.slice gr n n,.slice gg n n];rw[H,G];have δ:w<=tb:=(oA A.size)
   have N:=M.lt;have r:=L.lt;have o:=zh (TWp.start (n:=n) (B:=w.heap.size) χ ⟨δ,a,t⟩ om om l.out C (M.belowS E) (L.belowS E));replace A:=zh (aC A E);clear H G C E N r M L;refine hK.out _ _ (trivial) ?_;clear hK K D;intro D;try simp only[tz]
   refine tn 7 fun K hK=>?_;go_simp;refine hK.out _ _ D fun _=>?_;refine tw ?_;try simp only[tz]
   clear D;go_wp2;go_meet;exact⟨tb,_,gr,gg,rfl,o,A⟩
  case way22=>
   go_simp;obtain⟨Am,gg,H,G,C,E⟩:=yH ω 25 n;rw[H,G];have t:w<=gg:=(oA A.size)
   replace A:=zh (aC A E);have L:=zh C;clear H G C E;refine hK.out _ _ (trivial) ?_;clear hK K D;intro D;try simp only[tz]
   refine tp 2 fun K hK=>?_;go_simp;obtain⟨Aj,gr,H,G,C,E⟩:=yH Am 25 n;rw[H,G];have a:w<=gr:=(oA A.size)
   have v:gg<gr:=(oA L.lt)
   have l:=zh (Nat.ne_of_gt v);replace L:=zh (L.belowS E);replace A:=zh (aC A E);have M:=zh C;clear H G C E;refine hK.out _ _ (trivial) ?_;clear hK K D;intro D;try simp only[tz]
   refine tq 5 ?_;try simp only[tz]
   refine tp 6 fun K hK=>?_;go_simp;obtain⟨Aq,tb,H,G,C,E⟩:=aR Aj 237 [(n:aV),.slice gr n n,.slice gg n n];rw[H,G];have δ:w<=tb:=(oA A.size)
   have N:=M.lt;have r:=L.lt;have o:=zh (TWp.start (n:=n) (B:=w.heap.size) χ ⟨δ,a,t⟩ om om l.out C (M.belowS E) (L.belowS E));replace A:=zh (aC A E);clear H G C E N r M L;refine hK.out _ _ (trivial) ?_;clear hK K D;intro D;try simp only[tz]
   refine tn 7 fun K hK=>?_;go_simp;refine hK.out _ _ D fun _=>?_;refine tw ?_;try simp only[tz]
   clear D;go_wp2;go_meet;exact⟨tb,_,gr,gg,rfl,o,A⟩
 case rest=>
  obtain⟨tb,τ0,gr,gg,rfl,κ,T⟩:=hcut;go_wp2;go_loopw [13] (fun ζ wr=>∃(k:Nat) (rb:Nat->Nat) (ru:Nat->Va) (τ:Nat->Nat),k<=n/\ζ=(k:aV)/\Hid (TWp w t0 tb n gr gg k rb ru τ wr)/\Hid (Below w w wr)) (fun ζ _=>n-(intOf ζ).toNat)
  .exact⟨0,_,_,_,aZ5 _,rfl,κ,T⟩
  .
   clear κ T;obtain⟨k,rb,ru,τ,hk,rfl,J,A⟩:=hrel;by_cases d:k<n
   .have Y:=J.box.cell 1;simp only[eE,eF] at Y;have a:w<=gr:=(J.lo gr (by rw[J.out.t2];decide)).1;go_upto_region 5 with fail;refine da 9 Y fun D=>?_;refine dq 0 ?_;refine dq 1 ?_;refine dq 2 ?_;refine dq 3 ?_;refine dq 4 ?_;refine dq 5 ?_;try simp only[tz]
    refine dp 6 fun K hK=>?_;go_simp;obtain⟨η,gk,H,G,ρ,Z⟩:=XE wr 22 n;rw[H,G];have μ:=zh ρ;have U:=zh Z;have Ai:wr<=gk:=Nat.le_of_eq G;have b5:=aE Z Y;have m:=zh (J.reps.belowS Z);have Af:=m.frozen k;have Ae:η.cell? ⟨gr,k,none⟩=some (():aV):=(by rw[m.out.cell k];simp[d]);clear H G ρ Z;refine hK.out _ _ (fun _=>b5) (fun I=>?_);replace D:=I dC;clear I;try simp only[tz]
    refine dq 7 ?_;try simp only[tz]
    refine dn 8 fun K hK=>?_;go_simp;refine hK.out _ _ (fun h=>aB rfl h) fun _=>?_;refine dw ?_;try simp only[tz]
    clear D;have Aa:=zh (J.box.belowS U);have φ:gr≠gk:=by have:=J.reps.lt;omega
    have ψ:tb≠gr:=fun e=>by have C:=J.t1;have N:=J.t2;rw[e,N] at C;cases C
    have P:=(Aa.far (p:=⟨gr,k,none⟩) ψ (.slice gk n n)).cell 1;have Q:=(m.set_ k (.slice gk n n)).cell k;have ν:(((List.range n).map fun b=>if b<k then Value.slice (some ⟨rb b,0,none⟩) n n else .slice none 0 0).set k (.slice gk n n))[k]?=some (.slice gk n n):=by simp[d]
    rw[ν] at Q;simp only[eE,eF] at P;have g:=zh (μ.far (p:=⟨gr,k,none⟩) (fun e=>φ e.symm) (.slice gk n n));obtain⟨θ,ε⟩:=xE (η.setCell ⟨gr,k,none⟩ (.slice gk n n));have q:=zh ε;rw[<-ε] at P Q g|-;clear ε ν Y b5 Ae Af φ ψ;go_upto_region 6 with fail;refine db 12 P Q fun D=>?_;refine dq 0 ?_;refine dq 1 ?_;refine dq 2 ?_;refine dq 3 ?_;refine dq 4 ?_;refine dq 5 ?_;refine dq 6 ?_;refine dq 7 ?_;refine dq 8 ?_;try simp only[tz]
    refine dn 9 fun K hK=>?_;go_simp;apply(DO _ n om).mono;rintro e ι⟨u,rfl,z,σ⟩;obtain⟨W,X,f,rfl⟩:∃(W:OA) (X f:Nat),u=.slice W X f:=(by obtain⟨x,y,e⟩:=z.form';exact⟨_,_,_,e⟩);have Ac:=zh z;have O:=zh (aC (aI θ) σ);have ξ:=aE O.out P;have π:=aE O.out Q;have Ag:=(g.belowS O).frozen k;have Ah:ι.cell? ⟨gk,k,none⟩=some (():aV):=(by rw[(g.out.belowS O.out).cell k];simp[d]);clear z σ;refine hK.out _ _ (fun _=>⟨ξ,π⟩) (fun I=>?_);replace D:=I dC;clear I;try simp only[tz]
    refine dq 10 ?_;try simp only[tz]
    refine dn 11 fun K hK=>?_;go_simp;refine hK.out _ _ (fun h=>aB rfl h) fun _=>?_;refine dw ?_;try simp only[tz]
    clear D;have Ad:Hid (TWp w t0 tb n gr gg (k+1) _ _ _ _):=aG (J.step d Ai μ U (q.out▸O.out) (q.out▸Ac.out) om);have An:=zh J.size;have Ab:Hid (Below w w (ι.setCell ⟨gk,k,none⟩ (.slice W X f))):=aG (by have C:=(aC A U).grown (aU η gr k (.slice gk n n)) (aZ6 A.size U.size) (fun b e=>by injection e with e;omega);rw[<-q.out] at C;have N:=C.trans (O.mono C.size);exact N.grown (aU ι gk k (.slice W X f)) N.size (fun b e=>by injection e with e;have:=A.size;omega));clear P Q ξ π Ag Ah;go_wp2;exact⟨⟨k+1,_,_,_,om,pC,Ad,Ab⟩,oI⟩
   .obtain rfl:n=k:=om
    go_wp2;go_ret;exact⟨_,_,rfl,rfl,rfl,rfl,J.done,rfl,fun _=>rfl,A.out⟩
section
variable {a sb B n:Nat} {P M N:Int} {Mq:LI} {mv gv sv Gv:Va} {gen G:LL} (hO:(aD P M Mq).Fld (aF P M)) (hB:B<=sb) (hn:n<=1000) (hn1:1<=n) (hR:Rows (aF P M) n G) (hI:cH (aD P M Mq) G gen) (hGl:G.length<=100)
include hO hB hn hn1 hR hI hGl
theorem LJ:∀left,left<=100->OH (aD P M Mq) (aF P M) n gen G a sb B P M N Mq mv gv sv Gv left
 |0,_=>UD hO hB hn hn1 hR hI hGl
 |left+1,h=>UC hO hB hn hn1 hR hI hGl left om (LJ left om)
end
def UR(O:aQ)(q:Int)(n:Nat)(Gs:List (LL))(v j:Nat)(best:LI):Prop:=
 I2 O q n Gs v best/\∀i,i<j->i<Gs.length->∀y,Cmb O q (Gs i []) 0 v true (fun _=>0) y->cG y n≠0->BdW n best (cG y n)
theorem UR.full{O:aQ}{q:Int}{n:Nat}{Gs:List (LL)}{v j:Nat}{best:LI}(h:UR O q n Gs v j best)(E:Gs.length<=j):I2 O q n Gs (v+1) best:=fun i hi u C D y B A=>by
 by_cases e:u=v
 .subst e;exact h.2 i om hi y B A
 .exact h.1 i hi u C om y B A
theorem ag{a b c:Wo}{row A:Option Nat}(h:a.grownBy b row)(k:b.grownBy c A)(C:∀g,A=some g->a.heap.size<=g):a.grownBy c row:=
 ⟨k.os.trans h.os,k.tape.trans h.tape,k.output.trans h.output,aZ6 h.size k.size,fun i hi B=>(k.block i (aY1 hi h.size) (fun e=>oA (C i e.symm))).trans (h.block i hi B)⟩
theorem RO.ne_oi{B B' s:Nat}{t:TypeId}{w:Wo}{v u:Va}{l:List (List Va)}{xs:LI}(h:RO B t s w v l)(K:OI B' w u xs)(L:t≠3):∀g,v.ownBlock=some g->u.ownBlock≠some g:=fun g C A=>by
 rcases h.1.2 with⟨e,_⟩|⟨H,M,O,e,_,J,_⟩
 .rw[e] at C;cases C
 .rcases K.2 with⟨D,_⟩|⟨I,N,P,D,_,E,_⟩
  .rw[D] at A;cases A
  .rw[e] at C;rw[D] at A;have F:H=g:=aZ0 C;have G:I=g:=aZ0 A;subst F;subst G;rw[J] at E;have:=aZ0 E;injection this with _ e3 _
   exact L e3
theorem SrS.grownR{O:aQ}{q:Int}{n:Nat}{gen:LL}{a sb:Nat}{P M N:Int}{mv gv sv:Va}{w w':Wo}{best:LI}{k:Nat}{B s:Nat}{t:TypeId}{v:Va}{l:List (List Va)}(h:SrS O q n gen a sb P M N mv gv sv w best k)(E:RO B t s w v l)(D:w.grownBy w' v.ownBlock)(I:sb<B)(H:t≠3):SrS O q n gen a sb P M N mv gv sv w' best k:=by obtain⟨A,c,F,C⟩:=h.blk;exact⟨⟨A,c,F.grown D fun e=>oA ((E.lt e.symm).1),C.grown D fun g G e=>E.ne_oi C H g e G⟩,h.bst⟩
theorem YJ{k:Nat}{F:List (List Nat)}(h:∀S,S∈F->S.length=k):∀j,j<(dD F).length->0<=(dD F).getD j 0/\(dD F).getD j 0<=k:=fun j A=>by rw[jC] at A;rw[qS A];have B:=ID (F.take j).flatten (F j []);have C:=h _ (by rw[aZ4,aZ3 A];exact aY6 A:F j []∈F);omega
theorem cz(w:Wo)(P M:Int)(n q:Nat)(mv gv:Va)(Mq:LI)(gen:LL)(p:LI)(Gl:SI w mv Mq)(D:SS w gv gen)(Cs:nE P M Mq n gen p)(Bn:0<gen.length)(Jy:n<=7)(hq:aF P M=(q:Int))(Gm:q^gen.length<=256):
 Calls prog 38 #[.agg #[P,M,mv,n,gv]] w (fun e w'=>∃Jl Gz best,e=.returned (.tuple #[Jl,Gz,.int .i64 0])/\SI w' Gz best/\best.length=n/\aZ (aD P M Mq) gen (fun j=>best j 0)/\cG (fun j=>best j 0) n≠0/\
  (∀x,aZ (aD P M Mq) gen x->(∃j,j<n/\x j≠0)->cG (fun j=>best j 0) n<=cG x n)/\Below w.heap.size w w'):=by
 have Cj:=zh Gl;have Co:=zh D;have d:=zh Cs;have Dm:=zh hq;have Ck:=zh Gm;have Ir:=Cs.kn;have hn1:=Cs.n1;obtain⟨c,m,rfl,_⟩:=D;have As:=zh (iC.mk' w P M mv n (.slice c gen.length m));obtain⟨k,hk⟩:=xE gen.length;have φ:=zh hk;rw[<-hk] at Co As Ck Bn Ir|-;clear Gl Cs hq Gm hk;go_enter func38,ntmps38;go_upto_region 1 with fail;generalize w.alloc (.cells #[P,M,mv,n,.slice c k m] 27)=w0 at*;obtain⟨T,U,V,W,X,_,_,_,_,_⟩:=As.blk.five;go_wp2_with fail;refine(kG w0 P M n mv _ Mq gen (Cj.below As.bel zr) (Co.below As.bel zr)).mono ?_;rw[d.out.err];rintro e w1 ⟨rfl,Fz⟩;have Ca:=zh (As.on Fz);clear Fz As T U V W X;obtain⟨T,U,V,W,X,_,_,_,_,_⟩:=Ca.blk.five;have Jw:((k:Int)==0)=false:=by rw[eA];omega
 go_wp2_with fail;refine(oO w1 P M mv Mq (Cj.below Ca.bel zr) d.fld).mono ?_;rintro e w2 ⟨a,rfl,Gp,Ga⟩;have Es:=zh Gp.out;have Bh:=zh (Ca.on Ga);clear Gp Ga Ca T U V W X;obtain⟨T,U,V,W,X,_,_,_,_,_⟩:=Bh.blk.five;go_wp2_with fail;refine(am w2 P M n mv _ Mq gen p (Cj.below Bh.bel zr) (Co.below Bh.bel zr) d (by rw[<-φ.out];exact Bn) om).mono ?_;rintro e Q ⟨Jr,F,l,rfl,Ct,Ik,Fu,Ea,Bq,Ge,Du⟩;have Cb:=zh (Bh.on Du);have Hg:=zh (Es.on Du);have Dg:=zh Fu;have Hl:=zh Ea;have Dn:=zh Bq;have Hf:=zh Ge;have Hd:=zh Ct;obtain⟨Jq,Kc,rfl,_⟩:=Bq;rw[Ea] at Dn|-;obtain⟨A,Dw⟩:=xE F.length;have f:=zh Dw;rw[<-Dw] at Dn Hd Ik Ct|-;clear Fu Ea Ge Du Dw Bh Es T U V W X;obtain⟨T,U,V,W,X,_,_,_,_,_⟩:=Cb.blk.five;go_upto_region 13 with fail;obtain⟨Ei,sb,Z,J,π,ψ⟩:=aR Q 151 [.pointer a,(P:aV),(M:aV),mv,(n:aV),.slice c k m,.slice none 0 0,.slice none 0 0,.int .i64 0];rw[Z,J];have Jn:=zh (Cb.on ψ);have Ix:Q.heap.size<=sb:=om;have Fc:Hid (RnW (aD P M Mq) (aF P M) n gen a sb P M n mv (.slice c k m) Q Ei (.slice none 0 0) (.slice none 0 0) F 0 [] []):=aG ⟨π,RO.nil _ _ _ _,rfl,fun j E=>aB E (aY5 _),by rw[List.take_zero];exact OI.nil _ _,fun g h=>(by cases h),fun g h=>(by cases h),ψ,Ix⟩;clear Z J π ψ T U V W X;go_wp2_with fail;go_loopw [10,55] (fun rv Ef wr=>∃(t:Nat) (us:List Va) (Gs:List (LL)) (Y Ac:OA) (sc Ad:Nat),t<=A/\Ef=(t:aV)/\rv=.slice Ac t Ad/\us.length=t/\Hid (RnW (aD P M Mq) (aF P M) n gen a sb P M n mv (.slice c k m) Q wr (.slice Y t sc) (.slice Ac t Ad) F t us Gs)) (fun _ Ef _=>A-(intOf Ef).toNat)
 case atStart=>exact⟨0,[],[],none,none,0,0,aZ5 _,rfl,rfl,rfl,Fc⟩
 case round=>
  clear Fc;obtain⟨t,us,Gs,Y,Ac,sc,Ad,Ja,rfl,rfl,Gu,I⟩:=hrel;have De:Hid (iC w wr P M mv n (.slice c k m)):=aG (Cb.on I.bel);have ξ:=zh Gu;clear Gu;obtain⟨T,U,V,W,X,_,_,_,_,_⟩:=De.blk.five;by_cases Bs:t<A
  .obtain⟨u,Aa,Gr⟩:=Hf.out t (by rw[<-f.out];exact Bs);obtain⟨Fp,rfl,ε,L⟩:=(Dn.below I.bel zr).elt (k:=t) (by rw[Hl.out,<-f.out];exact Bs);rw[Aa] at ε L;have x0:=ε _ rfl;have x1:=L 0 _ rfl;have Fj:=zh Gr;obtain⟨Jk,Dd,rfl,_⟩:=Gr;have Dz:GL (aD P M Mq) n gen (F t []):=Dg.out _ (by rw[aZ4,aZ3 (by rw[<-f.out];exact Bs)];exact aY6 _);have Hj:=zh Dz;rw[cV,Dz.len,<-φ.out] at Fj x0;obtain⟨μ,Ec⟩:=xE ((dD F).getD t 0);have Hv:=zh Ec;rw[<-Ec] at x1;clear ε L Aa Dz Ec;go_upto_region 17 with fail;obtain⟨Bf,gx,Z,J,Ay,Dv⟩:=aR wr 153 [.slice Jk k Dd,(μ:aV)];rw[Z,J];have Aw:=zh (I.on Dv);have Cf:=zh (De.on Dv);have Dq:=zh Ay;have Cl:=zh (Fj.below (Aw.bel) zr);have Ex:Hid (sb<gx/\∀g,(Value.slice Y t sc).ownBlock=some g->g<gx):=aG ⟨by rw[<-J];exact I.blk.lt,fun g D=>by rw[<-J];exact(I.gens.lt D).2⟩;clear Z J Ay Dv x0 x1 T U V W X I De;obtain⟨T,U,V,W,X,_,_,_,_,_⟩:=Cf.blk.five;obtain⟨x0,x1,_,_⟩:=Dq.two;go_wp2_with fail;refine(bg (Cj.below Cf.bel zr) (Co.below Cf.bel zr) Cl d Hj (by rw[<-φ.out];exact Bn)).mono ?_;rintro e Ej ⟨G,Fy,Fv,u6,rfl,Ee,Cu⟩;obtain⟨Ax,Be,rfl,_⟩:=Ee.out;have Hy:=zh Fy;have Ht:=zh Fv;have Fe:=zh (Aw.on Cu);have Fm:=zh (Dq.belowS Cu);have Ce:=zh (Btw.of_sep Ee);have Ia:=zh Cu.size;have Ag:Hid (sb<Bf.heap.size/\(∀g,(Value.slice Y t sc).ownBlock=some g->g<Bf.heap.size)/\∀g,(Value.slice Ac t Ad).ownBlock=some g->g<Bf.heap.size):=aG ⟨Aw.blk.lt,fun g D=>(Aw.gens.lt D).2,fun g D=>(Aw.rks.lt D).2⟩;obtain⟨Ab,Gk⟩:=xE G.length;rw[<-Gk] at Ce|-;clear Ee Cu Fy Fv Gk T U V W X x0 x1 Dq Cf Aw Cl;go_upto_region 18 with fail;obtain⟨Bg,Ds,Z,J,Dt,κ⟩:=aR Ej 74 [(n:aV),.slice Ax Ab Be];rw[Z,J];have Ah:=zh (Fe.on κ);have Bj:=zh (Fm.belowS κ);have Dj:=zh Dt;have El:=zh (Ce.on κ);have Hn:Hid (∀g,(Value.slice Y t sc).ownBlock=some g->g≠Ds):=aG fun g D e=>by have:=Ag.2.1 g D;have Jt:=Ce.1;have:Bf.heap.size<=Ej.heap.size:=Ia.out;omega
   clear Z J Dt κ Fe Fm Ce;go_upto_region 20 with fail;have Ao:Bg.cell? (sb 6 none)=some (.slice Y t sc):=Ah.blk.cell 6;have Eg:Bg.cell? (Ds 1 none)=some (.slice Ax Ab Be):=Dj.cell 1;have Eu:Hid (RO Q.heap.size 25 1 Bg (.slice Y t sc) (us.map fun u=>[u])):=aG Ah.gens;have Hm:Hid ((us.map fun u=>[u]).length+1<=100000000):=aG (by rw[aY7,ξ.out];omega);have Em:=zh Ah.bel.size;refine db 12 Ao Eg fun o=>?_;refine dq 0 ?_;refine dq 1 ?_;refine dq 2 ?_;refine dq 3 ?_;refine dq 4 ?_;refine dq 5 ?_;refine dq 6 ?_;try simp only[tz]
   refine dp 7 fun K hK=>?_;go_simp;obtain⟨Jm,Cr,Z,J,Bl,Bm⟩:=uP Bg 25 [.slice Ax Ab Be];rw[Z,J];have Dr:=zh Bl;have Ap:=zh Bm;have Hi:Hid (Bg.heap.size=Cr):=aG J;have Ci:=zh (Eu.below Bm zr);have Fs:=aE Bm Ao;have Ft:=aE Bm Eg;clear Z J Bl Bm;refine hK.out _ _ (fun _=>⟨Fs,Ft⟩) (fun ζ=>?_);clear hK K;replace o:=ζ dC;clear ζ;try simp only[tz]
   refine dp 8 fun K hK=>?_;refine kQ rfl 25 149 1 24 _ underlying149 infoMat rfl dC dC _ _ rfl Q.heap.size (.slice Y t sc) (us.map fun u=>[u]) rfl Ci.out Cr 1 [.slice Ax Ab Be] rfl rfl (fun j u E=>(by rcases j with _|j;(simp at E;subst E;exact Dr.cell 0);(simp at E))) (by intro u Aa;simp at Aa;subst Aa;rfl) Hm.out (aZ6 Em Ap.size) ?_;intro v9 w9 b r σ;obtain⟨Bk,Bu,rfl⟩:=b.form';rw[aZ1,aZ2,aY7,ξ.out] at b σ|-;have Av:=zh b;have τ:=zh r;have Cp:=zh σ;have Aq:=zh ((Ah.blk.belowS Ap).grown r (fun e=>(Ah.ap _ e.symm).1 rfl));have Ai:=Aq.cell 6;have Ij:=Aq.frozen 6;have Aj:w9.cell? (Ds 1 none)=some (.slice Ax Ab Be):=((Dj.belowS Ap).grown r (fun e=>Hn.out _ e.symm rfl)).cell 1;simp only[eE,eF] at Ai;clear b r σ;refine hK.out _ _ (fun _=>⟨Ai,Aj⟩) (fun ζ=>?_);clear hK K;replace o:=ζ dC;clear ζ;try simp only[tz]
   refine dn 9 fun K hK=>?_;go_simp;refine hK.out _ _ (fun _=>o) (fun ζ=>?_);clear hK K;clear ζ;try simp only[tz]
   refine dq 10 ?_;try simp only[tz]
   refine dn 11 fun K hK=>?_;go_simp;refine hK.out _ _ (fun h=>aB rfl h) (fun ζ=>?_);clear hK K;clear ζ;refine dw ?_;try simp only[tz]
   clear o;have Dk:=zh (Ah.more (wA:=Jm) (by rw[ξ.out];exact Hy.out) Ht Ag.1 El (fun g D=>.inl (Ag.2.1 g D)) (fun g D=>.inl (Ag.2.2 g D)) Ap (by rw[Hi.out];exact Dr.lt) Av τ Cp);have Ie:=zh (((Bj.belowS Ap).grown τ (fun e=>by have:=Ex.2 gx e.symm;omega)).far (p:=(sb 6 none)) (by have:=Ex.1;intro e;have J:gx=sb:=e;omega) (.slice Bk (t+1) Bu));generalize w9.setCell (sb 6 none) (.slice Bk (t+1) Bu)=Ae at*;clear Ao Eg Fs Ft Ai Aj Ij Ah Bj Dj El Eu Em Dr Ap Ci Av τ Cp Aq;obtain⟨x0,x1,_,_⟩:=Ie.two;have Hs:=zh (Dk.rks.alloc (.cells #[μ] 3));have Ho:=zh (Blk.new Ae 3 [(μ:aV)]);have Fk:Hid (((dD F).take t).length=t):=aG (by rw[aY3,jC,<-f.out];omega);have ω:=aH Ae (.cells #[μ] 3);have Hz:Hid (Q.heap.size<=(Ae.alloc (.cells #[μ] 3)).heap.size):=aG (aZ6 Dk.bel.size ω.size);have Hw:Hid (Ae.heap.size<(Ae.alloc (.cells #[μ] 3)).heap.size):=aG (by rw[World.size_alloc];omega);clear ω;go_wp2_with (
    at_builtin;refine dP rfl _ _ rfl Q.heap.size (.slice Ac t Ad) ((dD F).take t) rfl Hs.out Ae.heap.size 1 μ rfl (Ho.cell 0) (by rw[Fk.out];omega) Hz.out ?_;intro v9 w9 b r σ;obtain⟨Ih,Jd,rfl⟩:=b.form';rw[aZ1,aZ2,Fk.out] at b σ|-;have Av:=zh b;have τ:=zh r;have Cp:=zh σ;clear b r σ)
   refine⟨⟨t+1,us++[.slice Ax Ab Be],Gs++[G],Bk,Ih,Bu,Jd,om,pC,rfl,by rw[aZ1,ξ.out];rfl,aG ?_⟩,oI⟩;exact RnW.rank (aH Ae (.cells #[μ] 3)) Hw.out Dk.out (by rw[<-Hv.out];exact Av.out) (by rw[<-f.out];exact Bs) τ.out Cp.out
  .obtain rfl:A=t:=om;clear Bs Ja T U V W X;obtain⟨R,Jc⟩:=xE wr;subst Jc;have Di:Hid (Gs.length=A):=aG (by rw[I.out.len,ξ.out]);have Fh:Hid (SrS (aD P M Mq) (aF P M) n gen a sb P M n mv (.slice c k m) (.slice Y A sc) R [] 0):=aG ⟨⟨none,0,I.blk,OI.nil _ _⟩,.inl rfl⟩;have Ev:Hid (R.grownBy R (some sb)):=aG (aP (bE R) _);have En:Hid (I2 (aD P M Mq) (aF P M) n Gs 1 []):=aG fun j E u L χ=>om
   --what any later world of this kind says
   have Dh : Hid (∀ C, R.grownBy C (some sb) -> Below Q.heap.size Q C /\ RO Q.heap.size 25 1 C (.slice Y A sc) (us.map fun u => [u]) /\ OI Q.heap.size C (.slice Ac A Ad) (dD F) /\ iC w C P M mv n (.slice c k m) /\
    ∀j,j<A->Sep (sb+1) C (fun w2=>SS w2 (us j (.slice none 0 0)) (Gs j []))):=aG fun C D=>by
    have Gc:=I.bel.grown D I.bel.size fun g e=>by cases e;exact I.sbl
    refine⟨Gc,I.gens.grown D fun g h e=>by cases e;exact(I.ap _ h).1 rfl,?_,Cb.on Gc,fun j E=>?_⟩
    .have:=I.rks.grown D fun g h e=>by cases e;exact I.ar _ h rfl
     rw[show(dD F).take A=dD F by rw[f.out,<-jC,List.take_length]] at this;exact this
    .obtain⟨_,_,lo,hi,Am,π,_,_⟩:=I.sys j (by rw[ξ.out];exact E);exact(π.grown D fun g e=>by cases e;exact .inl Am).sep Am
   have Cm:Hid (∀j,j<A->ED (aD P M Mq) n gen (F j []) (Gs j [])/\Rows (aF P M) n (Gs j [])/\cH (aD P M Mq) (Gs j []) gen):=aG fun j E=>by obtain⟨L,χ,_⟩:=I.sys j (by rw[ξ.out];exact E);exact⟨L,χ⟩
   have Fa:Hid (RO R.heap.size 160 4 R (.slice none 0 0) []):=aG (RO.nil _ _ _ _);have Et:Hid (∀C,Below Q.heap.size Q C->GF C a P M Mq):=aG fun C h=>Hg.on h;have Iw:2<=q:=by have L:=d.O.lt.pos;rw[Dm.out] at L;omega
   have Fl:Hid (∀v,1<=v->v<=k->A*chN k v*(q-1)^(v-1)<=1792/\(q-1)^(v-1)<=65536):=aG fun v L χ=>by
    have Am:=BC (q-1) k v;rw[show q-1+1=q from om] at Am;have π:(q-1)^(v-1)<=(q-1)^v:=Nat.pow_le_pow_right om om;have Ay:chN k v*(q-1)^(v-1)<=256:=aZ6 (Nat.mul_le_mul_left _ π) (aZ6 Am Ck);refine⟨?_,?_⟩
    .rw[Nat.mul_assoc];exact aZ6 (Nat.mul_le_mul (show A<=7 from om) Ay) dC
    .have Js:(q-1)^(v-1)<=q^(v-1):=Nat.pow_le_pow_left om _;have Dt:q^(v-1)<=q^k:=Nat.pow_le_pow_right om om;have:=Ck.out;omega
   have Ff:Hid (∀j,j<(dD F).length->0<=(dD F).getD j 0/\(dD F).getD j 0<=k):=aG (YJ fun S Il=>by rw[(Dg.out S Il).len,φ.out])
   have Ep : Hid (∀ (C : Wo) (best : LI) (H v : Nat), SrS (aD P M Mq) (aF P M) n gen a sb P M n mv (.slice c k m) (.slice Y A sc) C best H -> R.grownBy C (some sb) -> 1 <= v -> I2 (aD P M Mq) (aF P M) n Gs (v + 1) best -> (k <= v \/ (best.length = n -> cG (fun j => best j 0) n < lX k v [] F)) ->
    best.length=n/\aZ (aD P M Mq) gen (fun j=>best j 0)/\cG (fun j=>best j 0) n≠0/\(∀x,aZ (aD P M Mq) gen x->(∃j,j<n/\x j≠0)->cG (fun j=>best j 0) n<=cG x n)/\Below w.heap.size w C):=aG fun C best H v L χ Am π Ay=>by
    have Gj:F.length=Gs.length:=by rw[Di.out,f.out]
    have Fw:∀j,j<Gs.length->Rows (aF P M) n (Gs j []):=fun j E=>(Cm j (by rw[Di.out] at E;exact E)).2.1;have Iv:=E1 d.O d.rr (by rw[<-φ.out];exact Bn) Gj (by rw[<-f.out];exact Ct) (fun j E=>(Cm j (by rw[f.out];exact E)).1) om π Fw;have Iu:best.length=n:=by rcases L.bst with e|⟨e,_⟩;exact aB e Iv;exact e
    obtain⟨Bv,Bw,Bx,Bz⟩:=VN d.O d.rr (by rw[<-φ.out];exact Bn) Gj (by rw[<-f.out];exact Ct) Dg.out (fun j E=>(Cm j (by rw[f.out];exact E)).1) Fw Am L.bst π (by rw[<-φ.out];exact Ay.elim .inl fun h=>.inr (h Iu));exact⟨Bv,Bw,Bx,Bz,(Dh C χ).2.2.2.1.bel⟩
   have Gq:Q.heap.size<=sb:=I.sbl;have Iz:sb<R.heap.size:=I.blk.lt;clear I;go_wp2_with fail;go_loopw [15,16] (fun ov x wr=>∃(v:Nat) (best:LI) (H:Nat) (lo:List (List Va)) (Da:OA) (Db:Nat),1<=v/\v<=k+1/\x=(v:aV)/\ov=.slice Da lo.length Db/\Hid (SrS (aD P M Mq) (aF P M) n gen a sb P M n mv (.slice c k m) (.slice Y A sc) wr best H)/\Hid (R.grownBy wr (some sb))/\Hid (I2 (aD P M Mq) (aF P M) n Gs v best)/\H<=(v-1)*1792/\Hid (lo.length=v-1)/\Hid (RO R.heap.size 160 4 wr ov lo)) (fun _ x _=>k+1-(intOf x).toNat)
   case atStart=>exact⟨1,[],0,[],none,0,zr,om,rfl,rfl,Fh,Ev,En,om,aG rfl,Fa⟩
   case round=>
    clear Fh Ev En Fa;obtain⟨v,best,H,lo,Da,Db,Cw,Jz,rfl,rfl,s,θ,Df,Gi,Ag,Au⟩:=hrel;obtain⟨Az,Bc,Bp,An,Br⟩:=Dh.out wr θ.out;obtain⟨T,U,V,W,X,_,_,_,_,_⟩:=An.blk.five;have Bi:=zh Az;clear Bc Bp An Br Az;by_cases Cx:v<=k
    .have Jb:decide ((v:Int)<=(k:Int))=true:=dE om;have It:H<=65536:=by have:(v-1)*1792<=6*1792:=Nat.mul_le_mul_right _ om;omega
     have Ey:=zh (cr wr Q.heap.size a sb n H k A v q m sc P M n Mq mv c Y gen best (fun C h=>Et.out C (Bi.trans h)) Gq s Dm Iw om Cw Cx om om It (by have L:=(Fl v Cw Cx).1;have:(v-1)*1792<=6*1792:=Nat.mul_le_mul_right _ om;omega) (Fl v Cw Cx).2);go_wp2_with fail;refine Ey.mono ?_;rintro e Ei ⟨z,rfl,ψ⟩;have Do:=zh (s.on ψ);have Ew:=zh (bB θ (aP ψ (some sb)));have Fb:=zh (Au.below ψ zr);have At:Hid (UR (aD P M Mq) (aF P M) n Gs v 0 best):=aG ⟨Df.out,fun i h=>aB h (aY5 _)⟩;clear Ey ψ s θ Au Df Bi T U V W X;obtain⟨Ak,Al,Gb,_⟩:=Do.blk;have Ao:Ei.cell? (sb 6 none)=some (.slice Y A sc):=Gb.cell 6;clear Gb;go_wp2_with fail;clear Ao;have Jx:=fun(w:Wo)=>dX n om w;go_loopw [107] (fun x wr=>∃(j:Nat) (best:LI) (H:Nat),j<=A/\x=(j:aV)/\Hid (SrS (aD P M Mq) (aF P M) n gen a sb P M n mv (.slice c k m) (.slice Y A sc) wr best H)/\Hid (R.grownBy wr (some sb))/\Hid (UR (aD P M Mq) (aF P M) n Gs v j best)/\H<=(v-1)*1792+j*256/\Hid (RO R.heap.size 160 4 wr (.slice Da lo.length Db) lo)) (fun x _=>A-(intOf x).toNat)
     case atStart=>exact⟨0,best,H,aZ5 _,rfl,Do,Ew,At,om,Fb⟩
     case round=>
      clear Do Ew At Fb Gi;obtain⟨j,best,H,E,rfl,s,θ,At,Gi,Au⟩:=hrel;obtain⟨Az,Bc,Bp,An,Br⟩:=Dh.out wr θ.out;have Bi:=zh Az;have Jo:=zh An;have Hr:=zh Bp;obtain⟨T,U,V,W,X,_,_,_,_,_⟩:=An.blk.five;by_cases Cv:j<A
      .have Ed:=Br j Cv;have Fi:=zh Ed;obtain⟨Gt,Gn,Gg⟩:=Cm.out j Cv;obtain⟨Fo,Dd,Cq,_⟩:=Ed.out;have Bo:(Gs j []).length=k:=by rw[Gt.len,φ.out]
       rw[Bo] at Cq;have Bq:=Bc.rg;obtain⟨Fp,Ii,ε,_⟩:=Bq.elt (k:=j) (by rw[aY7,ξ.out];exact Cv);subst Ii;have x0:=ε (.slice Fo k Dd) (by rw[<-Cq];simp[List.getD,show j<us.length by rw[ξ.out];exact Cv]);rw[Nat.mul_one] at x0;rw[Cq] at Fi;have Ig:=zh (OI.made (B:=wr.heap.size) wr n zr om);have ω:=aH wr (.cells (madeCells #[.int .i64 0] n) 3);have Iy:sb+1<=wr.heap.size:=by have:=θ.size;omega
       have Bt:∀i,(List.replicate n (0:Int)).getD i 0=0:=fun i=>by by_cases hi:i<n<;>simp[List.getD,List.getElem?_replicate,hi]
       have Gh:cmN (aF P M).toNat (k-0) v<=256:=by rw[Dm.out,aZ8];exact aZ6 (MB om _ _) Ck.out
       have Jv:(v-1)*1792<=6*1792:=Nat.mul_le_mul_right _ om
       have Fg:=zh ((LJ (a:=a) (sb:=sb) (B:=Q.heap.size) (N:=(n:Int)) (mv:=mv) (gv:=.slice c k m) (sv:=.slice (some Fp) A sc) (Gv:=.slice Fo k Dd) (gen:=gen) d.O Gq om hn1 Gn Gg (by rw[Bo];omega) v om) (wr.alloc (.cells (madeCells #[.int .i64 0] n) 3)) 0 true (.slice wr.heap.size n n) (List.replicate n 0) best H
        (fun C h=>Et.out C (Bi.trans ((ω.mono Bi.size).trans h))) (s.on ω) (Fi.on ω) ((OI.sepI Ig (by simp;omega) (fun i=>by rw[Bt];exact I64.zero)).mono Iy) sM (fun i=>by rw[Bt];have:=d.O.lt.pos;omega) (by rw[show(fun j=>(List.replicate n (0:Int)).getD j 0)=fun _=>0 from funext Bt];exact⟨fun _=>0,fun j=>(bR d.O fun i _=>by rw[d.out.O.zero_mul]).symm⟩) om (by rw[Bo];omega))
       rw[show((0:Nat):Int)=0 from rfl,Bo] at Fg;have If:Hid ((fun j=>(List.replicate n (0:Int)).getD j 0)=fun _=>0):=aG (funext Bt);have Ci:=zh (bB θ (aP ω (some sb)));have ν:=zh (Au.alloc (.cells (madeCells #[.int .i64 0] n) 3));have Hk:=zh Gh;clear Az Bc Bp An Br Ed Gt Gn Gg Cq Bo Bq ε ω Bt Gh;go_wp2_with fail;refine Fg.mono ?_;rintro e Bf ⟨rfl,Fq,Gw,Fx,Dy,Ip,Eb,Gd⟩;have Cl:=zh Fx;have Hh:=zh (bB Ci Dy);have Hp:=zh (ν.grown Dy fun g D e=>by have L:=(ν.lt D).1;have:=aZ0 e;omega);have Hc:Hid (UR (aD P M Mq) (aF P M) n Gs v (j+1) Fq):=aG ⟨fun i hi u L χ y Cz ε=>Eb _ (At.1 i hi u L χ y Cz ε),fun i hi Io y Cz ε=>by
        by_cases e:i=j
        .subst e;exact Gd y (by rw[If.out];exact Cz) ε
        .exact Eb _ (At.2 i om Io y Cz ε)⟩
       have Iq:Gw<=(v-1)*1792+(j+1)*256:=by have:=Hk.out;omega
       clear Fx Dy Ip Eb Gd x0 T U V W X;go_wp2_with fail;exact⟨⟨j+1,Fq,Gw,om,pC,Cl,Hh,Hc,Iq,Hp⟩,oI⟩
      .obtain rfl:A=j:=om;have Eo:Hid (I2 (aD P M Mq) (aF P M) n Gs (v+1) best):=aG (At.full (by rw[Di.out];exact zr));have Is:H<=v*1792:=by
        have L:(v-1)*1792+A*256<=(v-1)*1792+1792:=om;have χ:(v-1)*1792+1792=v*1792:=by rw[<-Nat.succ_mul];congr 1;omega
        omega
       have Hu:Hid (SI wr (.slice Ac A Ad) (dD F)):=aG (Hr.si (by rw[jC,<-f.out];omega) (fun j=>by
        by_cases E:j<(dD F).length
        .have:=Ff.out j E;exact I64.of_small om om
        .rw[bG om];exact I64.zero))
       have Er:=zh (MR wr k v (.slice Ac A Ad) (dD F) Hu om Cx (by rw[jC,<-f.out];omega) Ff);obtain⟨ι,Dx⟩:=xE (sI k v (dD F) (dD F).length);have He:Hid (ι=lX k v [] F):=aG (by rw[Dx,xQ k v F _ (by rw[jC];exact zr),jC,List.take_length]);rw[<-Dx] at Er;obtain⟨Ak,Al,Ba,Bb⟩:=s.blk;have Cd:=zh Bb;have Cc:=zh Ba;have Ar:=zh (uI s.bst om Bb);obtain⟨δ,ρ⟩:=xE best.length;have Ha:=zh ρ;have Im:δ<=1000:=by
        rcases s.bst with e|⟨e,_⟩
        .rw[ρ,e];simp
        .omega
       obtain⟨η,Cy⟩:=xE (cG (fun j=>best j 0) δ);have Ic:=zh Cy;have Kb:η<=1000:=by rw[Cy];exact aZ6 (BN _ _) Im
       have Ez:Hid (∀C,SI C (.slice Ak δ Al) best->Calls prog 39 #[.slice Ak δ Al] C (fun e w'=>e=.returned (η:aV)/\C=w')):=aG fun C h=>by have:=mT C (.slice Ak δ Al) best h (by rw[<-ρ];omega);rwa[<-ρ,<-Cy] at this
       rw[<-ρ] at Cc Ar Cd;have Jp:=zh Bc;clear Az Bc Bp An Br Dx Ba Bb ρ Cy;go_wp2_with fail;refine Er.mono ?_;rintro e Bf ⟨rfl,rfl⟩;obtain⟨Je,Jf,Jg,Jh,Ji,Jj,Ao,Bd,Dc⟩:=Cc.nine;go_upto_region 38 with fail;have Hq:=zh (Au.below (aI wr) zr);have Ib:Hid (R.heap.size<=wr.heap.size):=aG θ.size;refine tb 16 Dc Bd fun o=>?_;refine tq 0 ?_;refine tq 1 ?_;refine tq 2 ?_;refine tq 3 ?_;refine tq 4 ?_;refine tq 5 ?_;refine tq 6 ?_;refine tq 7 ?_;refine tq 8 ?_;refine tq 9 ?_;refine tq 11 ?_;try simp only[tz]
       refine tn 10 fun K hK=>?_;go_simp;refine(Ez _ (Ar.below (aI wr) zr)).mono ?_;rintro e Ej ⟨rfl,rfl⟩;have Gy:=aE (aI wr) Dc;have Gx:=aE (aI wr) Bd;refine hK.out _ _ (⟨Gy,Gx⟩) ?_;clear hK K o;intro o;try simp only[tz]
       refine tq 12 ?_;try simp only[tz]
       refine tp 13 fun K hK=>?_;go_simp;obtain⟨Bg,Cr,Z,J,Bl,κ⟩:=uP wr 160 [(v:aV),(H:aV),(η:aV),(ι:aV)];rw[Z,J];have Bj:=zh Bl;have Af:=zh κ;have ν:=zh (Au.below κ zr);have b7:=aE κ Dc;have Fr:=aE κ Bd;clear Z J Bl κ;refine hK.out _ _ (⟨b7,Fr⟩) ?_;clear hK K o;intro o;try simp only[tz]
       refine tp 14 fun K hK=>?_;refine kQ rfl 160 93 4 32 _ underlying93 infoRnd rfl dC dC _ _ rfl R.heap.size (.slice Da lo.length Db) lo rfl ν.out Cr 1 [(v:aV),(H:aV),(η:aV),(ι:aV)] rfl rfl (fun j u E=>(by rw[Bj.out.cell j];exact E)) (by intro u Aa;simp at Aa;rcases Aa with rfl|rfl|rfl|rfl<;>rfl) (by have:=Ag.out;omega) (aZ6 Ib Af.size) ?_;intro v9 w9 b r σ;obtain⟨Bk,Bu,rfl⟩:=b.form';rw[aZ1,aZ2] at b|-;have Av:=zh b;have Dp:=zh ((s.on Af).grownR ν r Iz dC);have τ:=zh (ag (bB θ (aP Af (some sb))) r (fun g D=>(ν.lt D).1));have Aq:=zh ((Cc.belowS Af).grown r (fun e=>(by have:=(ν.lt e.symm).1;omega)));have Hb:=zh ((Cd.below Af zr).grown r (fun g D e=>ν.ne_oi (Cd.below Af zr) dC g e D));have Ai:=Aq.cell 8;have Aj:=Aq.cell 7;simp only[eE,eF] at Ai Aj;clear b r σ;refine hK.out _ _ (⟨Ai,Aj⟩) ?_;clear hK K o;intro o;try simp only[tz]
       refine tn 15 fun K hK=>?_;go_simp;refine hK.out _ _ o (fun ζ=>?_);clear hK K;clear ζ;refine tw ?_;try simp only[tz]
       clear o;have Ek:=zh (uI Dp.bst om Hb);clear b7 Fr Ai Gy Gx Je Jf Jg Jh Ji Jj Ao Bd Dc Hq Bj Af ν Cd Ar Cc;have Bd:w9.cell? (sb 7 none)=some (.slice Ak δ Al):=Aj;clear Aj;go_wp2_with fail;refine(Ez.out w9 Ek).mono ?_;rintro e Ae ⟨rfl,rfl⟩;by_cases Gf:η<ι
       .have In:decide ((η:Int)<(ι:Int))=true:=dE om;have Dl:=zh (Ep.out w9 best H v Dp τ Cw Eo (.inr fun h=>by rw[<-He.out,<-h,<-Ha.out,<-Ic.out];exact Gf));go_upto_region 40 with fail
        go_quiet (fail)
        go_wp2_with fail;go_ret3;obtain⟨Bv,Bw,Bx,Bz,Eh⟩:=Dl.out;exact⟨_,_,best,rfl,Ek.below (aY w9 _) zr,Bv,Bw,Bx,Bz,aC Eh ((aY w9 _))⟩
       .have In:decide ((η:Int)<(ι:Int))=false:=dG om;have Ju:¬η<ι:=Gf;go_wp2_with fail;exact⟨⟨v+1,best,H,lo++[[(v:aV),(H:aV),(η:aV),(ι:aV)]],Bk,Bu,om,om,pC,by rw[aZ1,aZ2],Dp,τ,Eo,by rw[Nat.add_sub_cancel];exact Is,aG (by rw[aZ1,aZ2,Ag.out];omega),Av⟩,oI⟩
    .obtain rfl:v=k+1:=om;have Jb:decide (((k+1:Nat):Int)<=(k:Int))=false:=dG om;have Ka:(k:Int)<((k+1:Nat):Int):=om;have Dl:=zh (Ep wr best H k s θ om Df (.inl zr));obtain⟨Ak,Al,Ba,Bb⟩:=s.blk;have Ar:=zh (uI s.bst om Bb);obtain⟨δ,ρ⟩:=xE best.length;rw[<-ρ] at Ar Ba;have Bd:wr.cell? (sb 7 none)=some (.slice Ak δ Al):=Ba.cell 7;clear Ba Bb ρ;go_upto_region 40 with fail
     go_quiet (fail)
     go_wp2_with fail;go_ret3;obtain⟨Bv,Bw,Bx,Bz,Eh⟩:=Dl.out;exact⟨_,_,best,rfl,Ar.below (aY wr _) zr,Bv,Bw,Bx,Bz,aC Eh (aY wr _)⟩
