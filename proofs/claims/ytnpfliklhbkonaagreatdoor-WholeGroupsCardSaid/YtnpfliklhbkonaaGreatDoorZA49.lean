/- Parts. -/
import Derived.Test.YtnpfliklhbkonaaGreatDoorZA47
import Derived.Test.YtnpfliklhbkonaaGreatDoorZA48
set_option maxRecDepth 99999
set_option maxHeartbeats 0
set_option linter.unusedVariables false
namespace Go.Proofs.YtnpfliklhbkonaaGreatDoor
open Go.Proofs.Tryz
section
open Go.RowKit
section
variable {B t9 i j a:Nat} {σ:Nat->Nat} {tv sv v:Va} {pl sc:LI} {cs:List (List Va)} {gl:List GoP} {w w0 w9:Wo}
theorem GoI.belI(h:GoI B t9 i j a σ tv sv v pl sc cs gl w)(D:Below B w0 w){u:Va}(E:u=tv\/u=sv)(A:w.grownBy w9 u.ownBlock)(k:Nat)(y:Va):Below B w0 (w9.setCell ⟨t9,k,none⟩ y):=by
 have hB:=h.size;have C:=D.grown A hB fun g e=>(h.lo g (by
  rcases E with rfl|rfl
  .rw[h.st g e];decide
  .rw[h.ss g e];decide)).1
 exact C.grown (aU w9 t9 k y) (aZ6 hB A.size) fun g e=>by injection e with e;subst e;exact(h.lo t9 (by rw[h.s9];decide)).1
theorem GoI.belG(h:GoI B t9 i j a σ tv sv v pl sc cs gl w)(A:Below B w0 w)(C:w.grownBy w9 v.ownBlock):Below B w0 w9:=A.grown C h.size fun g e=>(h.lo g (by rw[h.sl g e];decide)).1
theorem GoI.box9(h:GoI B t9 i j a σ tv sv v pl sc cs gl w){u:Va}(C:u=tv\/u=sv)(A:w.grownBy w9 u.ownBlock):Blk w9 t9 107 [(i:aV),(j:aV),(a:aV),tv,sv]:=h.b9.grown A fun e=>by
 have D:=h.s9;rcases C with rfl|rfl
 .have:=h.st _ e.symm;omega
 .have:=h.ss _ e.symm;omega
end
theorem WR(k:Nat):idP k++[(k:Int)]=idP (k+1):=by unfold idP;rw[List.range_succ,List.map_append];rfl
theorem SX(k:Nat):List.replicate k (1:Int)++[1]=List.replicate (k+1) 1:=List.replicate_succ'.symm
theorem D6{l:LI}{x:Int}(A:∀k,I64 (l k 0))(B:I64 x)(k:Nat):I64 ((l++[x]).getD k 0):=by
 rcases Nat.lt_trichotomy k l with h|h|h
 .rw[aZ4,aY2 h,<-aZ4];exact A k
 .subst h;rw[aZ4,eL zr,Nat.sub_self];exact B
 .rw[aZ4,aY4 (by rw[aZ1,aZ2];omega)];exact I64.zero
theorem RZ{n:Nat}(hn:n<=1000)(k:Nat):I64 ((idP n).getD k 0):=by
 by_cases hk:k<n
 .rw[eV hk];exact I64.of_small om om
 .rw[aZ4,aY4 (by rw[cK];omega)];exact I64.zero
theorem NE(n k:Nat):I64 ((List.replicate n (1:Int)).getD k 0):=by
 by_cases hk:k<n
 .have e:(List.replicate n (1:Int)).getD k 0=1:=by simp[List.getD,hk]
  rw[e];exact I64.of_small om om
 .rw[aZ4,aY4 (by rw[eG];omega)];exact I64.zero
theorem P0(w:Wo)(n q:Nat)(hn:n<=64)(hq:q<=256)(Ai:1<=q):
 Calls prog 45 #[n,q] w (fun e w'=>∃(v:Va) (cs:List (List Va)) (gl:List GoP),e=.returned v/\RG 5 w' v cs/\GsR w' cs gl/\GoS n q n 0 0 gl/\Below w w w'):=by
 have δ:=zh (GoO.start w);go_enter func45,ntmps45;go_wp2;go_loopw [5,12] (fun v g wr=>∃(i:Nat) (cs:List (List Va)) (gl:List GoP),i<=n/\g=(i:aV)/\Hid (GoO w v cs gl wr)/\Hid (GoS n q i 0 0 gl)/\Hid (Below w w wr)) (fun _ g _=>n-(intOf g).toNat)
 .exact⟨0,_,_,aZ5 _,rfl,δ,aG (GoS.start n q),bE _⟩
 .
  clear δ;obtain⟨i,cs,gl,hi,rfl,L,M,D⟩:=hrel;by_cases Ak:i<n
  .go_wp2;go_loopw [5,7] (fun v m wr=>∃(j:Nat) (cs:List (List Va)) (gl:List GoP),i<=j/\j<=n/\m=(j:aV)/\Hid (GoO w v cs gl wr)/\Hid (∃a,a<=1/\(a=0->i<j)/\(a=1->j=i)/\GoS n q i j a gl)/\Hid (Below w w wr)) (fun _ m _=>n-(intOf m).toNat)
   .exact⟨i,_,_,zr,hi,rfl,L,aG ⟨1,zr,fun e=>om,fun _=>rfl,M.toJ⟩,D⟩
   .
    clear L M D;obtain⟨j,cs,gl,Ag,Al,rfl,L,M,D⟩:=hrel;by_cases Ah:j<n
    .have ε:Hid (GoS n q i j 1 gl):=aG (by
      obtain⟨a,Ac,Ad,θ,h⟩:=M.out;rcases(by omega:a=0\/a=1) with rfl|rfl
      .exact h.toA
      .exact h)
     go_wp2;go_loopw [5,8] (fun v d wr=>∃(a:Nat) (cs:List (List Va)) (gl:List GoP),1<=a/\a<=q/\d=(a:aV)/\Hid (GoO w v cs gl wr)/\Hid (GoS n q i j a gl)/\Hid (Below w w wr)) (fun _ d _=>q-(intOf d).toNat)
     .exact⟨1,_,_,zr,Ai,rfl,L,ε,D⟩
     .
      clear L M D ε;obtain⟨a,cs,gl,Ae,Aj,rfl,L,M,D⟩:=hrel;by_cases Af:a<q
      .go_upto_region 12 with fail;obtain⟨w1,t9,ζ,η,ι,f⟩:=aR wr 107 [(i:aV),(j:aV),(a:aV),.slice none 0 0,.slice none 0 0];rw[ζ,η];have r:=zh (L.next f om ι);have p:=zh (D.trans (f.mono D.size));have π:Hid (cs.length+1<=100000000):=aG (by have:=M.len;rw[L.out.fin.out.1];omega);clear ζ η ι f L D;go_upto_region 13 with fail;go_loopw [31] (fun o μ=>∃(k:Nat) (σ:Nat->Nat) (tv sv:Va),k<=i/\o=(k:aV)/\Hid (GoI w t9 i j a σ tv sv u5 (idP k) (List.replicate k 1) cs gl μ)/\Hid (Below w w μ)) (fun o _=>i-(intOf o).toNat)
       .exact⟨0,_,_,_,aZ5 _,rfl,r,p⟩
       .
        clear r p;obtain⟨k,σ,tv,sv,hk,rfl,S,D⟩:=hrel;by_cases Am:k<i
        .have R:=S.b9.cell 3;simp only[eE,eF] at R;have A:=zh (S.on (aH wr (.cells #[k] 3)));have J:=zh (Blk.new wr 3 [(k:aV)]);have E:=zh (D.trans ((aH wr (.cells #[k] 3)).mono D.size));go_upto_region 16 with(
          at_builtin;refine dP rfl _ _ rfl w tv (idP k) rfl A.t wr 1 (k:Int) rfl (J.cell 0) (by rw[cK];omega) E.size ?_;intro v9 w9 C B K;obtain⟨F,G,H,rfl⟩:∃(F:OA) (G H:Nat),v9=.slice F G H:=(by obtain⟨x,y,e⟩:=C.form';exact⟨_,_,_,e⟩)
          rw[WR] at C;have z:=zh (A.pushT C B K);have V:=zh (A.belI E (.inl rfl) B 3 (.slice F G H));have I:=zh (A.box9 (.inl rfl) B);have ν:=I.cell 3;have Ab:=I.frozen 3;simp only[eE,eF] at ν;clear C B K)
         generalize w9.setCell (t9 3 none) (.slice F G H)=N at*;clear ν Ab I R A J E S D;have c:=z;have Y:=V;clear z V;have b4:=c.b9.cell 4;simp only[eE,eF] at b4;have A:=zh (c.on (aH N (.cells #[.int .i64 1] 3)));have J:=zh (Blk.new N 3 [.int .i64 1]);have E:=zh (Y.trans ((aH N (.cells #[.int .i64 1] 3)).mono Y.size));go_upto_region 17 with(
          at_builtin;refine dP rfl _ _ rfl w sv (List.replicate k 1) rfl A.s N 1 1 rfl (J.cell 0) (by rw[eG];omega) E.size ?_;intro v9 w9 C B K;obtain⟨F,G,H,rfl⟩:∃(F:OA) (G H:Nat),v9=.slice F G H:=(by obtain⟨x,y,e⟩:=C.form';exact⟨_,_,_,e⟩)
          rw[SX] at C;have ρ:=zh (A.pushS C B K);have ξ:=zh (A.belI E (.inr rfl) B 4 (.slice F G H));have I:=zh (A.box9 (.inr rfl) B);have x9:=I.cell 4;have T:=I.frozen 4;simp only[eE,eF] at x9;clear C B K)
         generalize w9.setCell (t9 4 none) (.slice F G H)=U at*;clear x9 T I b4 A J E c Y;go_wp2;exact⟨⟨k+1,_,_,_,om,pC,ρ,ξ⟩,oI⟩
        .obtain rfl:i=k:=om;have R:=S.b9.cell 3;simp only[eE,eF] at R;have A:=zh (S.on (aH wr (.cells #[j] 3)));have J:=zh (Blk.new wr 3 [(j:aV)]);have E:=zh (D.trans ((aH wr (.cells #[j] 3)).mono D.size));go_upto_region 19 with(
          at_builtin;refine dP rfl _ _ rfl w tv (idP i) rfl A.t wr 1 (j:Int) rfl (J.cell 0) (by rw[cK];omega) E.size ?_;intro v9 w9 C B K;obtain⟨F,G,H,rfl⟩:∃(F:OA) (G H:Nat),v9=.slice F G H:=(by obtain⟨x,y,e⟩:=C.form';exact⟨_,_,_,e⟩)
          have Z:=zh (A.pushT C B K);have W:=zh (A.belI E (.inl rfl) B 3 (.slice F G H));have I:=zh (A.box9 (.inl rfl) B);have x9:=I.cell 3;have T:=I.frozen 3;simp only[eE,eF] at x9;clear C B K)
         generalize w9.setCell (t9 3 none) (.slice F G H)=N at*;clear x9 T I R A J E S D;have b4:=Z.b9.cell 4;simp only[eE,eF] at b4;have A:=zh (Z.on (aH N (.cells #[a] 3)));have J:=zh (Blk.new N 3 [(a:aV)]);have E:=zh (W.trans ((aH N (.cells #[a] 3)).mono W.size));go_upto_region 20 with(
          at_builtin;refine dP rfl _ _ rfl w sv (List.replicate i 1) rfl A.s N 1 (a:Int) rfl (J.cell 0) (by rw[eG];omega) E.size ?_;intro v9 w9 C B K;obtain⟨O,P,Q,rfl⟩:∃(O:OA) (P Q:Nat),v9=.slice O P Q:=(by obtain⟨x,y,e⟩:=C.form';exact⟨_,_,_,e⟩)
          have b:=zh (A.pushS C B K);have X:=zh (A.belI E (.inr rfl) B 4 (.slice O P Q));have I:=zh (A.box9 (.inr rfl) B);have x9:=I.cell 4;have T:=I.frozen 4;simp only[eE,eF] at x9;clear C B K)
         generalize w9.setCell (t9 4 none) (.slice O P Q)=U at*;clear x9 T I b4 A J E Z W;obtain⟨ψ,ω,Aa,R,b4,_,_,_,_,_⟩:=b.b9.five;have A:=zh (b.on (aH U (.cells #[i,j,a,.slice F G H,.slice O P Q] 107)));have J:=zh (jG U 107 [(i:aV),(j:aV),(a:aV),.slice F G H,.slice O P Q]);have E:=zh (X.trans ((aH U (.cells #[i,j,a,.slice F G H,.slice O P Q] 107)).mono X.size));go_upto_region 10 with(
          at_builtin;refine fJ rfl 107 61 5 72 _ underlying61 infoGoal rfl dC dC _ _ rfl w u5 cs rfl A.l U 1 [(i:aV),(j:aV),(a:aV),.slice F G H,.slice O P Q] rfl rfl J.out (by intro u κ;simp at κ;rcases κ with rfl|rfl|rfl|rfl|rfl<;>rfl) π.out E.size ?_;intro v9 w9 C B K;have τ:=zh (A.pushG C B K rfl rfl (by rw[aZ1,aZ1,cK,eG,aZ2,aZ2];omega) (D6 (RZ om) (I64.of_small om om)) (D6 (NE i) (I64.of_small om om)));have V:=zh (A.belG E B);clear C B K)
         have χ:=zh (M.put Ag Ah Ae Af);clear ψ ω Aa R b4 A J E b X;go_wp2;exact⟨⟨a+1,_,_,om,om,pC,τ,χ,V⟩,oI⟩
      .obtain rfl:q=a:=om
       go_wp2;exact⟨⟨j+1,_,_,om,om,pC,L,aG ⟨0,om,fun _=>om,fun e=>om,M.endA hq⟩,D⟩,oI⟩
    .obtain rfl:n=j:=om;have φ:Hid (GoS n q (i+1) 0 0 gl):=aG (by
      obtain⟨a,Ac,Ad,θ,h⟩:=M.out;rcases(by omega:a=0\/a=1) with rfl|rfl
      .exact h.endJ hn
      .exact aB (θ rfl) om)
     go_wp2;exact⟨⟨i+1,_,_,om,pC,L,φ,D⟩,oI⟩
  .obtain rfl:n=i:=om
   go_wp2;go_ret;exact⟨_,_,_,rfl,L.l.rg,L.fin.out,M.out,D.out⟩
theorem infoMono:(prog.info? 29).map (fun i=>(i.zero,i.size,i.bytes))=some (some (.agg #[(),(),z0]),3,56):=by kernel_rfl
theorem RW{q:Int}{n:Nat}{g:GoP}(hq:2<=q)(E:g.i<=g.j)(C:g.j<n)(F:1<=g.a)(D:(g.a:Int)<q):nC q n g.pl g.sc:=by
 have B:nC q n (idP g.i) (List.replicate g.i 1):=by
  refine⟨by rw[cK,eG],by rw[eG];omega,fun k hk=>?_,fun k m hk A e=>?_,fun k hk=>?_⟩
  .rw[cK] at hk;rw[eV hk];omega
  .rw[cK] at hk A;rw[eV hk,eV A] at e;omega
  .rw[eG] at hk;have e:(List.replicate g.i (1:Int)).getD k 0=1:=by simp[List.getD,hk]
   rw[e];omega
 refine B.snoc C (by rw[eG];omega) (fun A=>?_) om D;unfold idP at A;obtain⟨k,hk,e⟩:=List.mem_map.1 A;rw[List.mem_range] at hk;omega
abbrev nW:=LI×LI
def MoR(w:Wo)(cs:List Va)(m:nW):Prop:=∃tv sv,cs=[tv,sv,.int .i64 0]/\SI w tv m.1/\SI w sv m.2
theorem MoR.on{w w':Wo}{cs:List Va}{m:nW}(h:MoR w cs m)(A:Below w w w'):MoR w' cs m:=by obtain⟨tv,sv,e,B,C⟩:=h;exact⟨tv,sv,e,B.below A zr,C.below A zr⟩
def MsR(w:Wo)(cs:List (List Va))(ml:List nW):Prop:=cs.length=ml.length/\∀k,k<ml.length->MoR w (cs k []) (ml k default)
theorem MsR.on{w w':Wo}{cs:List (List Va)}{ml:List nW}(h:MsR w cs ml)(A:Below w w w'):MsR w' cs ml:=⟨h.1,fun k hk=>(h.2 k hk).on A⟩
theorem MsR.snoc{w:Wo}{cs:List (List Va)}{ml:List nW}(h:MsR w cs ml){c:List Va}{m:nW}(B:MoR w c m):MsR w (cs++[c]) (ml++[m]):=by
 refine⟨by rw[aZ1,aZ1,h.1];rfl,fun k hk=>?_⟩;rw[aZ1,aZ2] at hk;by_cases e:k<ml.length
 .rw[show(cs++[c]).getD k []=cs k [] by simp[List.getD,aY2 (show k<cs.length by rw[h.1];exact e)],show(ml++[m]).getD k default=ml k default by simp[List.getD,aY2 e]];exact h.2 k e
 .have A:k=ml.length:=om;rw[A,show(ml++[m]).getD ml.length default=m by simp[List.getD],show(cs++[c]).getD ml.length []=c by rw[<-h.1];simp[List.getD]];exact B
def lO(u v:Va):Nat->Prop:=fun g=>u.ownBlock≠some g/\v.ownBlock≠some g
structure sV(B:Nat)(u v:Va)(ms ns:List (List Va))(ml:List nW)(w:Wo):Prop where
 size:B<=w
 m:RO B 29 3 w u ms
 n:RO B 107 5 w v ns
 ne:∀g,u.ownBlock=some g->v.ownBlock≠some g
 fin:gU (lO u v) w fun w2=>MsR w2 ms ml
theorem sV.start(w:Wo):sV w (():aV) (():aV) [] [] [] w:=⟨zr,RO.nil _ _ _ _,RO.nil _ _ _ _,fun g A=>by simp[Value.ownBlock] at A,fun w2 _=>⟨rfl,fun k hk=>aB hk (aY5 _)⟩⟩
section
variable {B:Nat} {u v u' v':Va} {ms ns:List (List Va)} {ml:List nW} {w w' w9 w0:Wo}
theorem sV.on(h:sV B u v ms ns ml w)(A:Below w w w'):sV B u v ms ns ml w':=
 ⟨aZ6 h.size A.size,h.m.below A zr,h.n.below A zr,h.ne,h.fin.on (KX.of (B:=B) A h.size)⟩
theorem sV.belM(h:sV B u v ms ns ml w)(A:Below B w0 w)(C:w.grownBy w9 u.ownBlock):Below B w0 w9:=A.grown C h.size fun g e=>(h.m.lt e).1
theorem sV.belN(h:sV B u v ms ns ml w)(A:Below B w0 w)(C:w.grownBy w9 v.ownBlock):Below B w0 w9:=A.grown C h.size fun g e=>(h.n.lt e).1
theorem sV.pushM(h:sV B u v ms ns ml w){tv sv:Va}{m:nW}(L:SI w tv m.1)(K:SI w sv m.2)(G:∀g,tv.ownBlock=some g->lO u v g/\g<w.heap.size)(F:∀g,sv.ownBlock=some g->lO u v g/\g<w.heap.size)(J:RO B 29 3 w9 u' (ms++[[tv,sv,.int .i64 0]]))(A:w.grownBy w9 u.ownBlock)(C:u'.ownBlock=u.ownBlock\/u'.ownBlock=some w.heap.size):sV B u' v (ms++[[tv,sv,.int .i64 0]]) ns (ml++[m]) w9:=by
 have hB:=h.size;have E:∀g,g<w.heap.size->lO u v g->lO u' v g/\lO u v g:=fun g H n=>by
  refine⟨⟨fun e=>?_,n.2⟩,n⟩;rcases C with C|C
  .rw[C] at e;exact n.1 e
  .rw[C] at e;injection e with e;omega
 have key:gU (fun g=>lO u' v g/\lO u v g) w fun w2=>MsR w2 ms ml/\SI w2 tv m.1/\SI w2 sv m.2:=
  (h.fin.more (fun g H e=>E g H e)).and ((L.stay fun _ g A=>E g (G g A).2 (G g A).1).and (K.stay fun _ g A=>E g (F g A).2 (F g A).1))
 have hk:KX B (fun g=>lO u' v g/\lO u v g) w w9:=KX.gr A hB fun g e=>⟨(h.m.lt e).1,fun I=>I.2.1 e⟩
 refine⟨aZ6 hB A.size,J,h.n.grown A fun g A e=>h.ne g e A,fun g D e=>?_,((key.on hk).more fun g _ e=>e.1).imp fun w2⟨M,N,O⟩=>M.snoc ⟨tv,sv,rfl,N,O⟩⟩;rcases C with C|C
 .rw[C] at D;exact h.ne g D e
 .rw[C] at D;injection D with D;have:=(h.n.lt e).2;omega
theorem sV.pushN(h:sV B u v ms ns ml w){c:List Va}(G:RO B 107 5 w9 v' (ns++[c]))(C:w.grownBy w9 v.ownBlock)(A:v'.ownBlock=v.ownBlock\/v'.ownBlock=some w.heap.size):sV B u v' ms (ns++[c]) ml w9:=by
 have hB:=h.size;have H:∀g,g<w.heap.size->lO u v g->lO u v' g/\lO u v g:=fun g E n=>by
  refine⟨⟨n.1,fun e=>?_⟩,n⟩;rcases A with A|A
  .rw[A] at e;exact n.2 e
  .rw[A] at e;injection e with e;omega
 have key:=h.fin.more (Y:=fun g=>lO u v' g/\lO u v g) fun g E e=>H g E e;have hk:KX B (fun g=>lO u v' g/\lO u v g) w w9:=KX.gr C hB fun g e=>⟨(h.n.lt e).1,fun F=>F.2.2 e⟩
 refine⟨aZ6 hB C.size,h.m.grown C fun g C e=>h.ne g C e,G,fun g D e=>?_,(key.on hk).more fun g _ e=>e.1⟩;rcases A with A|A
 .rw[A] at e;exact h.ne g D e
 .rw[A] at e;injection e with e;have:=(h.m.lt D).2;omega
end
structure jL(O:aQ)(q:Int)(n:Nat)(gen:LL)(gl:List GoP)(k:Nat)(ml:List nW):Prop where
 ok:∀m,m∈ml->uY O q n gen m.1 m.2
 all:∀t,t<k->(∃m,m∈ml/\vO O q n gen (gl t default).pl (gl t default).sc m.1 m.2)\/NoX O q n gen (gl t default).pl (gl t default).sc
 len:ml.length<=k
section
variable {O:aQ} {q:Int} {n:Nat} {gen:LL} {gl:List GoP} {k:Nat} {ml:List nW}
theorem jL.start:jL O q n gen gl 0 []:=⟨fun m h=>aB h List.not_mem_nil,fun t A=>aB A (aY5 _),zr⟩
theorem jL.put(h:jL O q n gen gl k ml){m:nW}(D:uY O q n gen m.1 m.2)(E:vO O q n gen (gl k default).pl (gl k default).sc m.1 m.2):jL O q n gen gl (k+1) (ml++[m]):=by
 refine⟨fun x A=>?_,fun t F=>?_,by rw[aZ1,aZ2];have:=h.len;omega⟩
 .rcases List.mem_append.1 A with A|A
  .exact h.ok x A
  .obtain rfl:=List.mem_singleton.1 A;exact D
 .by_cases e:t=k
  .subst e;exact .inl ⟨m,List.mem_append_right _ (List.mem_singleton.2 rfl),E⟩
  .rcases h.all t om with⟨x,B,C⟩|B
   .exact .inl ⟨x,List.mem_append_left _ B,C⟩
   .exact .inr B
theorem jL.skip(h:jL O q n gen gl k ml)(A:NoX O q n gen (gl k default).pl (gl k default).sc):jL O q n gen gl (k+1) ml:=
 ⟨h.ok,fun t B=>by
  by_cases e:t=k
  .subst e;exact .inr A
  .exact h.all t om,by have:=h.len;omega⟩
end
theorem jL.gen{O:aQ}{q n:Nat}{gen:LL}{gl:List GoP}{ml:List nW}(hO:O.Fld (q:Int))(hq:2<=q)(hR:Rows (q:Int) n gen)(h:jL O (q:Int) n gen gl gl.length ml)(I:GoS n q n 0 0 gl)(p:LI):
 GenP (n*(q-1)) (fun g=>g∈ml.map fun m=>ofL O q n m.1 m.2) p↔sT O q n gen p:=by
 refine RS hO hq hR _ (fun g J=>?_) (fun i j a E F G H=>?_) p
 .obtain⟨m,A,rfl⟩:=List.mem_map.1 J;exact⟨_,_,h.ok m A,rfl⟩
 .have A:=I.all ⟨i,j,a⟩ E F G H (.inl (by show i<n;omega));obtain⟨t,D,e⟩:=List.getElem_of_mem A;have C:gl t default=⟨i,j,a⟩:=by rw[aZ4,aZ3 D];exact e
  rcases h.all t D with⟨m,A,B⟩|B
  .rw[C] at B;exact .inl ⟨m.1,m.2,B,List.mem_map.2 ⟨m,A,rfl⟩⟩
  .rw[C] at B;exact .inr B
def ZQ(w:Wo)(P M:Int)(Mq:LI)(n q:Nat)(gen:LL)(e:Ending)(w':Wo):Prop:=
 Below w w w'/\(e=.returned (.tuple #[.pointer none,(),(),.int .i64 8])\/
 ∃(a:Nat) (uv A:Va) (ms:List (List Va)) (ml:List nW),e=.returned (.tuple #[.pointer a,uv,A,z0])/\GF w' a P M Mq/\RG 3 w' uv ms/\MsR w' ms ml/\(∀m,m∈ml->uY (aD P M Mq) (q:Int) n gen m.1 m.2)/\(∀p,GenP (n*(q-1)) (fun g=>g∈ml.map fun m=>ofL (aD P M Mq) q n m.1 m.2) p↔sT (aD P M Mq) q n gen p)/\ml.length<=2000000)
theorem RV{w:Wo}{cs:List (List Va)}{gl:List GoP}{A:OA}{n c k:Nat}(h:RG 5 w (.slice A n c) cs)(H:GsR w cs gl)(hk:k<gl.length):∃(B:Addr) (F:OA) (tl tc:Nat) (D:OA) (E sc:Nat),A=some B/\
 w.cell? (B.add (k*5))=some (.int .i64 ((gl k default).i:Int))/\w.cell? ⟨(B.add (k*5)).block,(B.add (k*5)).off+1,none⟩=some (.int .i64 ((gl k default).j:Int))/\w.cell? ⟨(B.add (k*5)).block,(B.add (k*5)).off+2,none⟩=some (.int .i64 ((gl k default).a:Int))/\w.cell? ⟨(B.add (k*5)).block,(B.add (k*5)).off+3,none⟩=some (.slice F tl tc)/\w.cell? ⟨(B.add (k*5)).block,(B.add (k*5)).off+4,none⟩=some (.slice D E sc)/\SI w (.slice F tl tc) (gl k default).pl/\SI w (.slice D E sc) (gl k default).sc:=by
 obtain⟨B,e,G,C⟩:=h.elt (k:=k) (by rw[H.1];exact hk);obtain⟨tv,sv,K,J,I⟩:=H.2 k hk;obtain⟨F,tl,tc,rfl⟩:∃(A:OA) (l c:Nat),tv=.slice A l c:=(by obtain⟨x,y,e,_⟩:=J;exact⟨_,_,_,e⟩)
 obtain⟨D,E,sc,rfl⟩:∃(A:OA) (l c:Nat),sv=.slice A l c:=(by obtain⟨x,y,e,_⟩:=I;exact⟨_,_,_,e⟩)
 rw[K] at G C;exact⟨B,F,tl,tc,D,E,sc,e,G _ rfl,C 0 _ rfl,C 1 _ rfl,C 2 _ rfl,C 3 _ rfl,J,I⟩
theorem ZU(w:Wo)(P M:Int)(n q:Nat)(mv gv:Va)(Mq:LI)(gen:LL)(Ag:SI w mv Mq)(Af:SS w gv gen)(Ac:fE P M Mq (n:Int) gen=0)(hq:aF P M=(q:Int))(Dc:2<=q)(Bp:q<=256)(Bs:n*(q-1)<=64)(Dw:gen.length<=64):
 Calls prog 18 #[.agg #[P,M,mv,n,gv]] w (ZQ w P M Mq n q gen):=by
 obtain⟨Cu,hn1,Dy,Dx,Ad,Dv⟩:=fP Ac;have hO:=dR Cu;rw[aZ8] at Ad;rw[hq] at hO Ad;have Cc:=zh hO;have Cf:=zh Ad;have Av:=zh (fun(w':Wo) (N:Below w.heap.size w w')=>VE w' n q P M mv gv Mq gen (Ag.below N zr) (Af.below N zr) Ac hq Dc Bp Bs);have Dg:=zh (fun(w':Wo) (tv sv:Va) (tl sc:LI) (N:Below w.heap.size w w') (Ai:SI w' tv tl) (Ah:SI w' sv sc) (Dr:0<sc.length) (η:nC (q:Int) n tl sc)=>V9 w' P M n q mv gv tv sv Mq tl sc gen (Ag.below N zr) (Af.below N zr) Ac hq Bp Dw Ai Ah Dr (by rw[hq];exact η));have Dz:n<=64:=om;have Ca:=zh (fun(w':Wo)=>P0 w' n q Dz Bp om);have Aw:=zh hq;have Ec:Hid ((n*(q-1):Nat)<=64):=aG Bs;obtain⟨Bv,gl,Cs,rfl⟩:∃(A:OA) (l c:Nat),gv=.slice A l c:=(by obtain⟨x,y,e,_⟩:=Af;exact⟨_,_,_,e⟩)
 obtain⟨ψ,ω,Aj,rfl⟩:∃(ψ:OA) (ω Aj:Nat),mv=.slice ψ ω Aj:=(by obtain⟨x,y,e,_⟩:=Ag;exact⟨_,_,_,e⟩)
 clear Ag Af Ac hq Cu hn1 Dy Dx Ad Dv hO;generalize n*(q-1)=nz at Av Bs;go_enter func18,ntmps18;go_upto_region 1 with fail;obtain⟨w1,De,C,D,N,Cy⟩:=aR w 27 [(P:aV),(M:aV),.slice ψ ω Aj,(n:aV),.slice Bv gl Cs];rw[C,D];have Ak:=zh Cy;have Bb:=zh N;clear C D N Cy;obtain⟨Bg,Bh,Bi,J,Bj,_,_,_,_,_⟩:=Bb.five;go_wp2_with fail;refine(Av.out w1 Ak).mono ?_;rintro e w2 ⟨a,rfl,Cv,Bk⟩;have Bw:=zh (aC Ak Bk);have Bc:=zh (Bb.belowS Bk);have Aq:=zh (Cv.on (aI w2));clear Bk Cv Bg Bh Bi J Bj Bb;have J:w2.cell? (De 3 none)=some (n:aV):=Bc.cell 3;go_upto_region 4 with fail;refine ta 7 J fun δ=>?_;refine tq 0 ?_;refine tq 1 ?_;refine tq 2 ?_;refine tq 6 ?_;try simp only[tz]
 refine tn 3 fun K hK=>?_;go_simp;refine(fI w2.drew a P M Mq Aq).mono ?_;rintro e Ei ⟨rfl,rfl⟩;rw[Aw.out];refine hK.out _ _ (J) ?_;clear hK K δ;intro δ;try simp only[tz]
 refine tn 4 fun K hK=>?_;go_simp;refine(Ca.out w2.drew).mono ?_;rintro e o ⟨v,cs,B,rfl,Bq,Bm,Cz,Bl⟩;have Dk:=zh Bq;have Dj:=zh Bm;have Ap:=zh Cz;have ξ:=zh (aC (aI w2) Bl);have Dh:=zh (Aq.on Bl);have Dd:=aE ξ.out J;obtain⟨Co,L,Df,rfl,Cw⟩:∃(Co:OA) (L Df:Nat),v=.slice Co L Df/\L=B.length:=(by obtain⟨x,y,e,_⟩:=Bq;exact⟨_,_,_,e,Bm.1⟩);have Ar:=zh Cw;clear Bq Bm Cz Bl Cw;refine hK.out _ _ (Dd) ?_;clear hK K δ;intro δ;try simp only[tz]
 refine tq 5 ?_;try simp only[tz]
 refine tw ?_;try simp only[tz]
 clear δ;have Dn:=zh (Bc.belowS ξ);have S:=zh (aC Bw ξ);have Ce:=zh (sV.start o);have Dt:L<=1048576:=(by have:=Ap.len;have:=Ar.out;omega)
 have As:=zh Dt;clear J Dd Bc Aq Ca Av ξ Ak Bw;go_wp2_with fail;go_loopw [2,3,4,25] (fun Dq u v Bt wr=>∃(k:Nat) (ms ns:List (List Va)) (ml:List nW),k<=L/\Dq=.pointer a/\Bt=(k:aV)/\Hid (sV o.heap.size u v ms ns ml wr)/\Hid (jL (aD P M Mq) (q:Int) n gen B k ml)/\Hid (ns.length<=k)/\Hid (Below o.heap.size o wr)) (fun _ _ _ Bt _=>L-(intOf Bt).toNat)
 case atStart=>exact⟨0,_,_,_,aZ5 _,rfl,rfl,Ce,aG jL.start,aG zr,bE _⟩
 case round=>
  clear Ce;obtain⟨k,ms,ns,ml,hk,rfl,rfl,σ,T,At,O⟩:=hrel;by_cases Eg:k<L
  .have Da:k<B.length:=(by have:=Ar.out;omega)
   obtain⟨Ed,ν,tl,tc,κ,μ,sc,rfl,Cp,Cq,Cr,Dp,g4,Ai,Ah⟩:=RV (k:=k) (Dk.below O zr) (Dj.on O) Da;have G:=Ap.ok (B k default) (by rw[aZ4,aZ3 Da];exact aY6 _);have Ba:=zh Ai;have Ay:=zh Ah;have Di:=zh G;have Cd:Hid (nC (q:Int) n (B k default).pl (B k default).sc):=aG (RW om G.1 G.2.1 G.2.2.1 om);have Ci:Hid (0<(B k default).sc.length):=aG (by unfold GoP.sc;rw[aZ1,aZ2];omega);clear Ai Ah G;obtain⟨gk,G⟩:∃gk,B k default=gk:=⟨_,rfl⟩
   have Cb:=zh G;rw[G] at Cp Cq Cr Ba Ay Di Cd Ci;clear G;go_upto_region 7 with fail;obtain⟨Bu,Eh,C,D,Ct,ε⟩:=aR wr 107 [.int .i64 (gk.i:Int),.int .i64 (gk.j:Int),.int .i64 (gk.a:Int),.slice ν tl tc,.slice κ μ sc];rw[C,D];have π:=zh (O.trans (ε.mono O.size));have τ:=zh (σ.on ε);have χ:=zh Ct;have Dm:=zh (Ba.below ε zr);have Dl:=zh (Ay.below ε zr);have Cj:Hid (Blk Bu De 27 [(P:aV),(M:aV),.slice ψ ω Aj,(n:aV),.slice Bv gl Cs]):=aG (Dn.belowS π);clear C D Ct ε Cp Cq Cr Dp g4 Ba Ay O σ;obtain⟨Bg,Bh,Bi,J,Bj,_,_,_,_,_⟩:=Cj.five;have Aa:=χ.cell 3;have b4:=χ.cell 4;simp only[eE,eF] at Aa b4;have Bx:=zh (Dg.out Bu _ _ _ _ (S.trans (π.mono S.size)) Dm Dl Ci Cd);go_wp2_with fail;refine Bx.mono ?_;rintro e W ⟨Ee,Y,Z,f,b,d,h,rfl,Ae,Du⟩;have H:=zh (π.trans (Ae.mono π.size));have φ:=zh (τ.on Ae);have Do:=zh (χ.belowS Ae);have ρ:Hid ((∀{u:Va} {l:LI},OI Bu.heap.size W u l->∀g,u.ownBlock=some g->lO u3 u4 g/\g<W.heap.size)):=aG fun Ea g U=>by have Ds:=Ea.lt U;exact⟨⟨fun e=>by have:=(τ.m.lt e).2;omega,fun e=>by have:=(τ.n.lt e).2;omega⟩,Ds.2⟩
   clear Ae Bg Bh Bi J Bj Aa b4 χ Cj τ Bx;rcases Du with rfl|⟨rfl,lt,ls,Cx,Bn,Bo⟩|⟨rfl,Db⟩
   .go_wp2_with fail;refine bodyPost_ret (v:=.tuple #[.pointer none,.slice none 0 0,.slice none 0 0,.int .i64 8]) (by simp[results,results18,go_sem]) rfl ?_;exact⟨(S.trans (H.mono S.size)).trans ((aH W _).mono (by have:=S.size;have:=H.size;omega)),.inl rfl⟩
   .have z:vO (aD P M Mq) (q:Int) n gen gk.pl gk.sc lt ls:=(by have:=Cx;rwa[Aw.out] at this)
    have Am:Hid (jL (aD P M Mq) (q:Int) n gen B (k+1) (ml++[(lt,ls)])):=aG (T.put (m:=(lt,ls)) (z.aut Cc Cf) (by rw[Cb.out];exact z));have Ao:=zh (ρ Bn);have An:=zh (ρ Bo);have Az:Hid (SI W (.slice Y Z f) lt/\SI W (.slice b d h) ls):=aG (by
     have η:=z.pm;have Ef:=z.full;refine⟨Bn.si (by rw[η.len];omega) fun x=>?_,Bo.si om fun x=>?_⟩
     .by_cases Br:x<lt.length
      .have:=η.rng x Br;exact I64.of_small om om
      .rw[aZ4,aY4 om];exact I64.zero
     .by_cases Br:x<ls.length
      .have:=η.nz x Br;exact I64.of_small om om
      .rw[aZ4,aY4 om];exact I64.zero)
    clear Cx z Bn Bo ρ;go_upto_region 11 with fail;obtain⟨X,Eb,C,D,Ab,F⟩:=aR W 29 [.slice Y Z f,.slice b d h,.int .i64 0];rw[C,D];have Cl:=zh Ab;have Q:=zh (H.trans (F.mono H.size));have s:=zh (φ.on F);have Cm:=zh F;clear C D Ab F;obtain⟨Bd,Be,Bf,_,_,_⟩:=Cl.three;have I:=zh (aH X (.cells #[.slice Y Z f,.slice b d h,.int .i64 0] 29));have E:=zh (s.on I);have r:=zh (jG X 29 [.slice Y Z f,.slice b d h,.int .i64 0]);have R:=zh (Q.trans (I.mono Q.size));have t:=zh (aC Cm I);have p:Hid (ms.length+1<=100000000):=aG (by have:=E.fin.out.1;have:=T.len;have:=As.out;omega);go_upto_region 14 with(
     at_builtin;refine fJ rfl 29 60 3 56 _ underlying60 infoMono rfl dC dC _ _ rfl o.heap.size u3 ms rfl E.m X.heap.size 1 [.slice Y Z f,.slice b d h,.int .i64 0] rfl rfl r.out (by intro u θ;simp at θ;rcases θ with rfl|rfl|rfl<;>rfl) p.out R.size ?_;intro v9 w9 ζ V ι;have Ax:=zh (E.pushM (m:=(lt,ls)) (Az.1.below t zr) (Az.2.below t zr) (fun g U=>⟨(Ao.out g U).1,by have:=(Ao.out g U).2;have:=t.size;omega⟩) (fun g U=>⟨(An.out g U).1,by have:=(An.out g U).2;have:=t.size;omega⟩) ζ V ι);have Al:=zh (E.belM R V);clear ζ V ι)
    have Au:Hid (ns.length<=k+1):=aG (by have:=At.out;omega);clear Bd Be Bf Cl Q s Cm I E r R t p Az Ao An T φ H;go_wp2_with fail;exact⟨⟨k+1,_,_,_,om,pC,rfl,Ax,Am,Au,Al⟩,oI⟩
   .have Am:Hid (jL (aD P M Mq) (q:Int) n gen B (k+1) ml):=aG (T.skip (by rw[Cb.out];have:=Db;rwa[Aw.out] at this));clear Db ρ;go_upto_region 13 with fail;obtain⟨X,Eb,C,D,Ab,F⟩:=aR W 29 [.slice Y Z f,.slice b d h,.int .i64 0];rw[C,D];have Q:=zh (H.trans (F.mono H.size));have s:=zh (φ.on F);have Ck:=zh (Do.belowS F);clear C D Ab F;obtain⟨Bd,Be,Bf,Aa,b4,_,_,_,_,_⟩:=Ck.five;have I:=zh (aH X (.cells #[.int .i64 (gk.i:Int),.int .i64 (gk.j:Int),.int .i64 (gk.a:Int),.slice ν tl tc,.slice κ μ sc] 107));have E:=zh (s.on I);have r:=zh (jG X 107 [.int .i64 (gk.i:Int),.int .i64 (gk.j:Int),.int .i64 (gk.a:Int),.slice ν tl tc,.slice κ μ sc]);have R:=zh (Q.trans (I.mono Q.size));have p:Hid (ns.length+1<=100000000):=aG (by have:=At.out;have:=As.out;omega);go_upto_region 14 with(
     at_builtin;refine fJ rfl 107 61 5 72 _ underlying61 infoGoal rfl dC dC _ _ rfl o.heap.size u4 ns rfl E.n X.heap.size 1 [.int .i64 (gk.i:Int),.int .i64 (gk.j:Int),.int .i64 (gk.a:Int),.slice ν tl tc,.slice κ μ sc] rfl rfl r.out (by intro u θ;simp at θ;rcases θ with rfl|rfl|rfl|rfl|rfl<;>rfl) p.out R.size ?_;intro v9 w9 ζ V ι;have Ax:=zh (E.pushN ζ V ι);have Al:=zh (E.belN R V);clear ζ V ι)
    have Au:Hid ((ns++([[.int .i64 (gk.i:Int),.int .i64 (gk.j:Int),.int .i64 (gk.a:Int),.slice ν tl tc,.slice κ μ sc]]:List (List Va))).length<=k+1):=aG (by rw[aZ1,aZ2];have:=At.out;omega);clear Bd Be Bf Aa b4 Ck Q s I E r R p T φ H;go_wp2_with fail;exact⟨⟨k+1,_,_,_,om,pC,rfl,Ax,Am,Au,Al⟩,oI⟩
  .obtain rfl:L=k:=om;have Bz:Hid (jL (aD P M Mq) (q:Int) n gen B B.length ml):=aG (by have:=T.out;rwa[Ar.out] at this);go_wp2_with fail;refine bodyPost_ret (v:=.tuple #[.pointer a,u3,u4,.int .i64 0]) (by simp[results,results18,go_sem]) rfl ?_;exact⟨S.trans (O.mono S.size),.inr ⟨a,u3,u4,ms,ml,rfl,Dh.on O,σ.m.rg,σ.fin.out,Bz.ok,jL.gen Cc Dc Cf Bz Ap,by have:=T.len;have:=As.out;omega⟩⟩
