/- Parts. -/
import Derived.Test.YtnpfliklhbkonaaGreatDoorZA5
set_option maxRecDepth 99999
set_option maxHeartbeats 0
set_option linter.unusedSimpArgs false
set_option linter.unusedVariables false
namespace Go.Proofs.YtnpfliklhbkonaaGreatDoor
open Go.Proofs.Tryz
section
open Go.RowKit
theorem IsP.i64{n:Nat}{p:LI}(h:IsP n p)(hn:n<=1000)(k:Nat):I64 (p k 0):=by
 by_cases hk:k<n
 .have:=h.rng k hk;exact I64.of_small om om
 .rw[aZ4,aY4 (by rw[h.len];omega)];exact I64.zero
theorem SI.perm{w:Wo}{A:OA}{n m c:Nat}{p:LI}(h:SI w (.slice A m c) p)(D:IsP n p){k:Nat}(hk:k<n):∃B y,A=some B/\w.cell? (B.add k)=some (.int .i64 ((y:Nat):Int))/\y<n/\Hid (p k 0=(y:Int)):=by obtain⟨B,x,e,F,_,E⟩:=h.elt (k:=k) (by rw[D.len];exact hk);have C:=D.nat hk;rw[E.out] at C;exact⟨B,x.toNat,e,by rw[<-C.2];exact F,C.1,aG (E.out▸C.2)⟩
theorem A3.row{t0:Nat}{τ:Nat->Nat}{w:Wo}{u:Va}{r:LI}(h:A3 t0 τ w u (some r)):jR t0 τ w u r:=h
theorem pN.iff{R:Nat->Nat->Option (LI)}{n f b:Nat}{p r:LI}(B:R b (p b 0).toNat=some r):pN R n (f+1) b p↔pN R n f (b+1) (aL p (bX r)):=
 ⟨fun⟨s,A,C⟩=>by rw[B] at A;cases A;exact C,fun h=>⟨r,B,h⟩⟩
theorem NJ(F:TwF)(V:TwV)(w:Wo)(h:TW F V w)(hR:vE F.n V.R)(hn:F.n<=64)(pv:Va)(p:LI)(b:Nat)(ι:SI w pv p)(θ:IsP F.n p)(o:b<=F.n)(δ:dN b p):
 Calls prog 152 #[.pointer F.tb,pv,b] w (fun e w'=>∃(u:Va) (k:Nat),e=.returned (.tuple #[u,k])/\k<=F.n/\(k=F.n↔pN V.R F.n (F.n-b) b p)/\Below w w w'):=by
 have H:=zh h;have X:=zh hR;have Z:=zh ι;have M:=zh θ;have W:=zh δ;have T:=zh (bE w);clear h ι θ δ hR;have Ai:=fun(w:Wo) (l c:Nat)=>run_eql_slice_nil (P:=prog) w 22 3 none l c underlying22;have Aj:=fun(w:Wo) (a:Addr) (l c:Nat)=>run_eql_slice_nil (P:=prog) w 22 3 (some a) l c underlying22;obtain⟨n,S⟩:=xE F.n;have A:=zh S;rw[<-S] at hn o M|-;clear S;go_enter func152,ntmps152;go_wp2;go_loopw [1,2] (fun v x wr=>∃(q:LI) (k:Nat),b<=k/\k<=n/\x=(k:aV)/\Hid (SI wr v q)/\Hid (IsP n q)/\Hid (dN k q)/\Hid (pN V.R n (n-b) b p↔pN V.R n (n-k) k q)/\Hid (Below w w wr)) (fun _ x _=>n-(intOf x).toNat)
 .exact⟨p,b,zr,o,rfl,Z,M,W,aG Iff.rfl,T⟩
 .
  clear Z M W T;obtain⟨q,k,Ah,hk,rfl,I,G,π,L,E⟩:=hrel;have J:=zh (H.on E);obtain⟨d,g,i⟩:=J.box3;rw[<-A.out] at d g i;by_cases ε:k<n
  .have K:k<F.n:=A.out▸ε;have t:=J.repsAt K;obtain⟨Q,Ak,rfl,Af⟩:=I.out;rw[G.out.len] at I|-;obtain⟨a,y,rfl,Ad,κ,Ab⟩:=I.perm G.out ε;have z:=J.rowAt K (x:=y) (A.out▸κ);have B:=J.rep k y K (A.out▸κ);rw[<-A.out] at t;have D:Hid ((q k 0).toNat=y):=aG (by rw[Ab.out,aZ8]);generalize F.rb k=rb at*;generalize V.ru k y=ru at*;clear Af;cases hrr:V.R k y with
   |none=>
    rw[hrr] at B;have Ag:ru=.slice none 0 0:=B;subst Ag;have τ:Hid (k=n↔pN V.R n (n-b) b p):=aG ⟨fun e=>om,fun hi=>by
     have j:=L.1 hi;obtain⟨f,Ae⟩:∃f,n-k=f+1:=⟨n-k-1,om⟩
     rw[Ae] at j;obtain⟨r,m,_⟩:=j;rw[D.out,hrr] at m;cases m⟩
    clear B hrr D;go_wp2_with fail
    go_quiet (fail)
    go_wp2;go_ret2;exact⟨_,k,rfl,hk,τ.out,aC E (aY _ _)⟩
   |some r=>
    rw[hrr] at B;have Y:=zh B.row;obtain⟨Am,Al,rfl⟩:=B.row.form;have C:Hid (IsP n r):=aG (A.out▸X.is _ _ _ hrr);rw[C.out.len] at Y z;have U:=zh (GV X (A.out▸G.out) π K (D.out▸hrr));have σ:Hid (pN V.R n (n-b) b p↔pN V.R n (n-(k+1)) (k+1) (aL q (bX r))):=aG (L.trans (by rw[show n-k=(n-(k+1))+1 from om];exact pN.iff (D.out▸hrr)));clear B hrr D;go_wp2_with fail
    go_quiet (fail)
    rename_i nq;have ξ:=zh (aC E (aY wr nq));have Aa:=zh (Y.si.below (aY wr nq) zr);have ψ:=zh (I.below (aY wr nq) zr);generalize wr.drewN nq=Ar at*;clear d g i t Ad z;go_wp2_with fail;apply(DP _ n _ r Aa C om).mono;rintro e Ap⟨An,rfl,ζ,O⟩;have μ:=zh (aC ξ O);have ω:=zh (ζ.si (by rw[C.out.inv.len];omega) (C.inv.i64 om));have φ:=zh (ψ.below O zr);clear ζ O;go_wp2_with fail;apply(nS _ n _ _ q (bX r) φ ω G C.inv om).mono;rintro e Aq⟨Ao,rfl,η,s⟩;have ν:=zh (aC μ s);have N:Hid (IsP n (aL q (bX r))):=aG (by have:=U.1;rwa[<-A.out] at this);have χ:=zh (η.si (by rw[N.out.len];omega) (N.i64 om));have ρ:Hid (dN (k+1) (aL q (bX r))):=aG U.2;clear η s;go_wp2;exact⟨⟨_,k+1,om,om,pC,χ,N,ρ,σ,ν⟩,oI⟩
  .obtain rfl:n=k:=om;have Ac:Hid (n=n↔pN V.R n (n-b) b p):=aG (by have:=L.out;rw[Nat.sub_self] at this;exact⟨fun _=>this.2 trivial,fun _=>rfl⟩);go_wp2_with fail
   go_quiet (fail)
   go_wp2;go_ret2;exact⟨_,n,rfl,zr,by have:=Ac.out;simpa using this,aC E (aY _ _)⟩
section
variable {ops:Array Oper} {rest:List Oper} {o:Oper} {a:Act} {w:Wo} {K:Act->Wo->Prop} {Q:Exit->Act->Wo->Prop} {E:Prop}
theorem ia (t T : TypeId) (s E : Nat) (z : Va) (L : prog.underlying T = some (.slice t)) (n : (prog.info? t).map (fun i => (i.zero, i.size, i.bytes)) = some (some z, s, E)) (θ : z.cells.size = s) (J : 0 < s) (d : E <= 1000)
 (U x:Operand)(R:o.op=.call {callee:=.builtin .append,args:=#[U,x],argTypes:=#[T,T]})
 (B:Nat)(v:Va)(l C:List (List Va))(N:a.eval U=v)(F:RO B t s w v l)(u:Va)(S:a.eval x=u)(G:RG s w u C)(H:∀k,k<C.length->(C k []).length=s)(W:∀y∈C.flatten,y.oneCell'=true)
 (q:l.length+C.length<=100000000)(hB:B<=w)
 (h:∀v' w',RO B t s w' v' (l++C)->w.grownBy w' v.ownBlock->(v'.ownBlock=v.ownBlock\/v'.ownBlock=some w.heap.size)->K (a.put o.dst v') w'):o.wp prog a w K Q:=by
 obtain⟨ι,hi,ε,ζ,η⟩:=info_parts n;have b:(l.length+C.length)*E<=140737488355328:=aZ6 (Nat.mul_le_mul q d) dC;obtain⟨A,c,rfl,G⟩:=G;rcases A with _|V
 .have D:C=[]:=by
   rcases Nat.eq_zero_or_pos C with D|D
   .exact eH D
   .obtain⟨_,e,_⟩:=G 0 D;cases e
  subst D;have I:(Builtin.append_ #[T,T] o.type #[v,.slice none ([]:List (List Va)).length c]).run prog w=.ok v w:=by
   rcases F.1.2 with⟨rfl,D⟩|⟨g,μ,ν,rfl,_,_,δ,_⟩
   .simp[Builtin.append_,run_underlying L,sizeOf,typeInfo,hi,Builtin.lenOf,Builtin.firstCells]
   .simp[Builtin.append_,run_underlying L,sizeOf,typeInfo,hi,Builtin.lenOf,Builtin.firstCells,δ,storeCells]
  unfold Oper.wp execOp;simp only[R,resolve,invoke,builtin,Sem.run_bind,Sem.run_pure,Result.andThen_ok,List.map_toArray,List.map_cons,List.map_nil,N,S,I];exact h v w (by simpa using F) (World.grownBy.refl _ _) (.inl rfl)
 .have m := JX H;obtain ⟨v', w', I, X, Y, _, Z⟩ := run_append_own_at (P := prog) w B T o.type t ι z s E L hi ε ζ η θ J v l _ F.1 V C c C.flatten om (by
   intro j y O;have p:j<C.length*s:=by rw[<-m];exact(List.getElem?_eq_some_iff.1 O).1
   have hk:j/s<C:=by rw[Nat.div_lt_iff_lt_mul J];exact p
   have r:j%s<s:=Nat.mod_lt _ J;have M:j/s*s+j%s=j:=Nat.div_add_mod' j s;obtain⟨κ,e,f⟩:=G (j/s) hk;injection e with e;subst e;have:=f (j%s) y (by rw[<-G3 H hk r,M];exact O);rwa[M] at this) W (by unfold maxLen;omega) b hB
  unfold Oper.wp execOp;simp only[R,resolve,invoke,builtin,Sem.run_bind,Sem.run_pure,Result.andThen_ok,List.map_toArray,List.map_cons,List.map_nil,N,S,I];refine h v' w' ⟨by simpa using X,fun k hk=>?_⟩ Y Z;rw[aZ1] at hk;by_cases e:k<l
  .rw[show(l++C).getD k []=l k [] by simp[List.getD,aY2 e]];exact F.2 k e
  .rw[show(l++C).getD k []=C (k-l.length) [] by simp[List.getD,eL (show l<=k from om)]];exact H _ om
theorem LR (L : o.guard = none) (t T : TypeId) (s C : Nat) (z : Va) (U : prog.underlying T = some (.slice t)) (M : (prog.info? t).map (fun i => (i.zero, i.size, i.bytes)) = some (some z, s, C)) (W : z.cells.size = s) (S : 0 < s) (I : C <= 1000)
 (E x:Operand)(O:o.op=.call {callee:=.builtin .append,args:=#[E,x],argTypes:=#[T,T]})
 (B:Nat)(v:Va)(l A:List (List Va))(J:a.eval E=v)(P:RO B t s w v l)(u:Va)(V:a.eval x=u)(R:RG s w u A)(G:∀k,k<A.length->(A k []).length=s)(D:∀y∈A.flatten,y.oneCell'=true)
 (N:l.length+A.length<=100000000)(hB:B<=w)
 (h:∀v' w',RO B t s w' v' (l++A)->w.grownBy w' v.ownBlock->(v'.ownBlock=v.ownBlock\/v'.ownBlock=some w.heap.size)->wpList prog ops Q rest (a.put o.dst v') w'):wpList prog ops Q (o::rest) a w:=
 wpList_plain L fun K hK=>ia t T s C z U M W S I E x O B v l A J P u V R G D N hB fun v' w' D F H=>hK _ _ (h v' w' D F H)
end
theorem RO.emptyS(w:Wo):RO w 22 1 (w.alloc (.cells #[] 22)) (.slice w 0 0) []:=
 ⟨World.ownsRow_lit (base:=w.heap.size) (e:=22) (size:=1) w #[] 0 zr (by unfold maxLen;omega) rfl,fun k hk=>aB hk sM⟩
def oR(us:List Va):List (List Va):=us.map fun u=>[u]
theorem iF(us:List Va):(oR us).length=us.length:=by simp[oR]
theorem BI{us:List Va}{k:Nat}(hk:k<us):(oR us).getD k []=[us k (():aV)]:=by simp[oR,List.getD,hk]
theorem XW{us:List Va}(k:Nat)(hk:k<(oR us).length):((oR us).getD k []).length=1:=by rw[BI (by rw[<-iF];exact hk)];rfl
theorem FW(us:List Va):(oR us).flatten=us:=by induction us with
 |nil=>rfl
 |cons u us ih=>simp[oR] at ih|-;exact ih
theorem L9(w:Wo)(A:Addr)(c:Nat)(us:List Va)(h:RG 1 w (.slice (some A) us c) (oR us))(B:∀y∈us,y.oneCell'=true)(I:us.length<=1000000):Calls prog 153 #[.slice (some A) us c] w (fun e w'=>∃u,e=.returned u/\RO w 22 1 w' u (oR us)/\Below w w w'):=by
 have H:=zh h;have E:=zh B;clear h B;have J:=fun(w:Wo) (l c:Nat)=>run_eql_slice_nil (P:=prog) w 25 22 (some A) l c underlying25;go_enter func153,ntmps153;go_wp2_with (first|(at_builtin;refine LR rfl 22 25 1 24 _ underlying25 infoInts rfl dC dC _ _ rfl w _ [] (oR us) rfl (RO.emptyS w) _ rfl (H.below (aH _ _) zr) XW (by rw[FW];exact E.out) (by rw[iF,List.length_nil];omega) sM ?_;intro K w1 D C _))
 have G:=zh D;have F:=zh ((RO.emptyS w).bgrown (aH _ _) sM C);clear D C;go_wp2;go_ret;exact⟨_,rfl,by simpa using G.out,F.out⟩
theorem sX(V:TwV)(b:Nat)(p:LI)(u v:Va):(V.addGen b p u v).G=wX V.G b p:=by
 funext c g;show(g∈(if c=b then V.gl b++[p] else V.gl c))=(g∈V.gl c\/(c=b/\g=p))
 by_cases e:c=b
 .subst e;rw[iP rfl];simp
 .rw[iN e];simp[e]
theorem ZS{n b:Nat}{R:fH}{G:jM}{p:LI}(h:iR n b R G)(H:b<n):iR n (b+1) R (wX G b p):=by
 have C:∀c g,b+1<=c->(wX G b p c g↔G c g):=fun c g B=>⟨fun h=>h.elim id fun e=>om,.inl⟩
 have A:∀c q,b+1<=c->GenP n (G c) q->GenP n (wX G b p c) q:=fun c q B hq=>hq.mono fun g A=>.inl A;refine⟨h.rep,⟨fun c g B A=>h.comp.is c g om ((C c g B).1 A),fun c x r g B D E A=>h.comp.cl c x r g om D E ((C c g B).1 A),fun c x r B E=>A c r B (h.comp.rep c x r om E),fun c g B D F=>A c g B (h.comp.up c g om D ((C (c+1) g om).1 F))⟩,fun c g B A=>h.fix c g om ((C c g B).1 A),fun g A=>h.last g ((C n g om).1 A)⟩
theorem YU{n b x:Nat}{R:fH}{G:jM}{p:LI}(h:iR n (b+1) R G)(A:b<n)(C:IsP n p)(B:dN b p)(D:p b 0=(x:Int))(hn:R b x=none):iR n (b+1) (mD R b x p) G:=
 ⟨fq h.rep A C B D hn,V4 hn h.comp,h.fix,h.last⟩
theorem BR.less{n b:Nat}{S S':LI->Prop}{R B:fH}{G A:jM}(h:BR n b S R G B A)(D:∀q,S' q->S q):BR n b S' R G B A:=⟨h.ext,h.ok,h.same,h.up,fun p C=>h.has p (D p C),h.new⟩
structure pO(F:TwF)(V:TwV)(w:Wo)(b:Nat)(p:LI)(pv:Va):Prop where
 tw:TW F V w
 ok:iR F.n b V.R V.G
 caps:∀c,b<=c->c<F.n->(V.gl c).length+dZ V.R F.n F.n<=F.n*F.n
 row:jR F.t0 V.τ w pv p
 is:IsP F.n p
 fix:dN b p
 le:b<=F.n
 small:F.n<=64
def uH(F:TwF)(V:TwV)(w:Wo)(b:Nat)(p:LI)(e:Ending)(w':Wo):Prop:=
 e=.returned (.tuple #[])/\∃V',TW F V' w'/\TwS F V V' w w'/\I3 F.n b p V.R V.G V'.R V'.G/\(∀c,b<=c->c<F.n->(V'.gl c).length+dZ V'.R F.n F.n<=F.n*F.n)/\∀c,c<b->V'.gl c=V.gl c
structure kY(F:TwF)(V:TwV)(w:Wo)(b:Nat)(p:LI)(pv:Va):Prop where
 tw:TW F V w
 ok:iR F.n (b+1) V.R V.G
 caps:∀c,b<c->c<F.n->(V.gl c).length+dZ V.R F.n F.n<=F.n*F.n
 cap1:(V.gl b).length<=F.n*F.n+1
 row:jR F.t0 V.τ w pv p
 is:IsP F.n p
 fix:dN b p
 lt:b<F.n
 small:F.n<=64
 gis:∀g,V.G b g->IsP F.n g/\dN b g
 gen:GenP F.n (V.G b) p
 rg:∀x r,V.R b x=some r->GenP F.n (V.G b) r
 up:∀g,V.G (b+1) g->GenP F.n (V.G b) g
def GN(F:TwF)(V:TwV)(w:Wo)(b:Nat)(p:LI)(e:Ending)(w':Wo):Prop:=
 e=.returned (.tuple #[])/\∃V',TW F V' w'/\TwS F V V' w w'/\I4 F.n b p V.R V.G V'.R V'.G/\(∀c,b<c->c<F.n->(V'.gl c).length+dZ V'.R F.n F.n<=F.n*F.n)/\∀c,c<=b->V'.gl c=V.gl c
def R8(V:TwV)(n b:Nat):Nat:=dZ V.R n n*(2*n+2)+2*(n-b)+1
def LO(V:TwV)(n b:Nat):Nat:=dZ V.R n n*(2*n+2)+2*(n-b)
def US(F:TwF)(m:Nat):Prop:=∀(V:TwV) (w:Wo) (b:Nat) (p:LI) (pv:Va),R8 V F.n b<m->pO F V w b p pv->Calls prog 98 #[.pointer F.tb,pv,b] w (uH F V w b p)
def OJ(F:TwF)(m:Nat):Prop:=∀(V:TwV) (w:Wo) (b:Nat) (p:LI) (pv:Va),LO V F.n b<m->kY F V w b p pv->Calls prog 154 #[.pointer F.tb,pv,b] w (GN F V w b p)
structure iS(F:TwF)(V1:TwV)(w1:Wo)(b:Nat)(S:LI->Prop)(V:TwV)(w:Wo):Prop where
 tw:TW F V w
 st:TwS F V1 V w1 w
 vl:BR F.n b S V1.R V1.G V.R V.G
 caps:∀c,b<c->c<F.n->(V.gl c).length+dZ V.R F.n F.n<=F.n*F.n
 gl:∀c,c<=b->V.gl c=V1.gl c
section
variable {F:TwF} {V V1 V2:TwV} {w w1 w2:Wo} {b:Nat} {S S':LI->Prop} {p q:LI} {pv:Va}
theorem iS.on(h:iS F V1 w1 b S V w)(A:Below w w w2):iS F V1 w1 b S V w2:=⟨h.tw.on A,h.st.trans (TwS.below h.tw A),h.vl,h.caps,h.gl⟩
theorem iS.less(h:iS F V1 w1 b S V w)(A:∀q,S' q->S q):iS F V1 w1 b S' V w:=⟨h.tw,h.st,h.vl.less A,h.caps,h.gl⟩
theorem iS.step(h:iS F V1 w1 b S V w)(H:TW F V2 w2)(E:TwS F V V2 w w2)(D:I4 F.n b p V.R V.G V2.R V2.G)(B:∀c,b<c->c<F.n->(V2.gl c).length+dZ V2.R F.n F.n<=F.n*F.n)(C:∀c,c<=b->V2.gl c=V.gl c):iS F V1 w1 b (fun q=>S q\/q=p) V2 w2:=
 ⟨H,h.st.trans E,h.vl.step D,B,fun c A=>(C c A).trans (h.gl c A)⟩
theorem iS.sameG(h:iS F V1 w1 b S V w):V.G b=V1.G b:=by
 funext g;show(g∈V.gl b)=(g∈V1.gl b)
 rw[h.gl b zr]
theorem iS.pre(h:iS F V1 w1 b S V w)(D:b<F.n)(hn:F.n<=64)(B:(V1.gl b).length<=F.n*F.n+1)(C:∀g,V1.G b g->IsP F.n g/\dN b g)(I:∀x r,V1.R b x=some r->GenP F.n (V1.G b) r)(hq:GenP F.n (V1.G b) q)(hi:IsP F.n q)(E:dN b q)(H:jR F.t0 V.τ w pv q):kY F V w b q pv:=by
 refine⟨h.tw,h.vl.ok,h.caps,by rw[h.gl b zr];exact B,H,hi,E,D,hn,?_,?_,?_,?_⟩
 .rw[h.sameG];exact C
 .rw[h.sameG];exact hq
 .rw[h.sameG];intro x r A;cases e:V1.R b x with
  |none=>exact(h.vl.new x r e A).1
  |some s=>have:=h.vl.ext.r b x s e;rw[A] at this;obtain rfl:=aZ0 this;exact I x r e
 .rw[h.sameG];exact h.vl.up
theorem iS.lack(h:iS F V1 w1 b S V w):dZ V.R F.n F.n<=dZ V1.R F.n F.n:=yC h.vl.ext.r _ _
theorem iS.insEnd(E:pO F V w b p pv)(P:b<F.n)(W:¬Ch V.R F.n b p)(Z:TwS F V V1 w w1)(N:V1.R=V.R)(M:V1.G=wX V.G b p)(T:∀c,c<b->V1.gl c=V.gl c)(U:(V1.gl b).length=(V.gl b).length+1)
 (h:iS F V1 w1 b S V2 w2)(O:∀x r,V.R b x=some r->S (aL r p)):uH F V w b p (.returned (.tuple #[])) w2:=by
 have B:=h.vl;rw[N,M] at B;have A:I3 F.n b p V.R V.G V2.R V2.G:=J7 P E.ok E.is E.fix B.ext B.ok B.same B.up (fun x r Y=>B.has _ (O x r Y)) B.new;refine⟨rfl,V2,h.tw,Z.trans h.st,A,fun c J K=>?_,fun c J=>(h.gl c om).trans (T c J)⟩;by_cases e:c=b
 .subst e
  --a representative is new
  have g:dZ V2.R F.n F.n<dZ V.R F.n F.n:=by
   have Q:∃c x,c<F.n/\x<F.n/\V.R c x=none/\V2.R c x≠none:=by
    refine aY0 fun X=>W ?_;refine Ch.more A.has fun d x s C=>?_;have D:=A.ok.rep.lt _ _ _ C;have H:x<F.n:=by have I:=A.ok.rep.to _ _ _ C;have f:=(A.ok.rep.is _ _ _ C).rng d D;omega
    cases e:V.R d x with
    |none=>exact aB ⟨d,x,D,H,e,by rw[C];simp⟩ X
    |some r=>have:=A.ext.r d x r e;rw[C] at this;exact this.symm
   obtain⟨d,x,D,H,L,I⟩:=Q;exact C5 A.ext.r H L I _ D
  have:=E.caps c zr K;rw[h.gl c zr,U];omega
 .exact h.caps c om K
end
theorem pO.done{F:TwF}{V:TwV}{w w':Wo}{b:Nat}{p:LI}{pv:Va}(h:pO F V w b p pv)(A:Below w w w')(B:pN V.R F.n (F.n-b) b p):uH F V w b p (.returned (.tuple #[])) w':=
 ⟨rfl,V,h.tw.on A,TwS.below h.tw A,⟨sK.refl _ _ _,h.ok,⟨h.is,h.fix,B⟩,fun _ C=>.inl C⟩,h.caps,fun _ _=>rfl⟩
theorem YK{n:Nat}{R:fH}(hR:vE n R){b x:Nat}{r:LI}(h:R b x=some r):x<n:=by have A:=hR.to _ _ _ h;have B:=(hR.is _ _ _ h).rng b (hR.lt _ _ _ h);omega
theorem pO.loop{F:TwF}{V:TwV}{w w1:Wo}{b:Nat}{p:LI}{pv u v9:Va}(h:pO F V w b p pv)(B:b<F.n)(D:TW F (V.addGen b p u v9) w1):iS F (V.addGen b p u v9) w1 b (fun _=>False) (V.addGen b p u v9) w1:=by
 refine⟨D,TwS.refl _ _ _,?_,fun c E C=>?_,fun _ _=>rfl⟩
 .rw[sX];exact BR.start (ZS h.ok B) fun g A=>by
   rcases A with A|⟨e,_⟩
   .exact(h.ok.comp.up b g zr B A).mono fun g A=>.inl A
   .omega
 .show(if c=b then _ else V.gl c).length+dZ V.R F.n F.n<=_;rw[iN om];exact h.caps c om C
theorem pO.facts{F:TwF}{V:TwV}{w:Wo}{b:Nat}{p:LI}{pv u v9:Va}(h:pO F V w b p pv)(D:b<F.n):
 ((V.addGen b p u v9).gl b).length<=F.n*F.n+1/\(∀g,(V.addGen b p u v9).G b g->IsP F.n g/\dN b g)/\(∀x r,(V.addGen b p u v9).R b x=some r->GenP F.n ((V.addGen b p u v9).G b) r)/\(∀x r,(V.addGen b p u v9).R b x=some r->GenP F.n ((V.addGen b p u v9).G b) (aL r p))/\((V.addGen b p u v9).gl b).length=(V.gl b).length+1/\∀c,c<b->(V.addGen b p u v9).gl c=V.gl c:=by
 have C:((V.addGen b p u v9).gl b).length=(V.gl b).length+1:=by show(if b=b then _ else _:LL).length=_;rw[iP rfl,aZ1];rfl
 have A:∀x r,V.R b x=some r->GenP F.n (wX V.G b p b) r:=fun x r A=>(h.ok.comp.rep b x r zr A).mono fun g B=>.inl B;refine⟨by rw[C];have:=h.caps b zr D;omega,?_,?_,?_,C,fun c E=>by show(if c=b then _ else _)=_;rw[iN om]⟩
 .rw[sX];rintro g (B|⟨_,rfl⟩)
  .exact h.ok.fix b g zr B
  .exact⟨h.is,h.fix⟩
 .rw[sX];exact A
 .rw[sX];exact fun x r e=>.mul (A x r e) (.inr ⟨rfl,rfl⟩)
def BP(τ:Nat->Nat)(B:Nat)(w:Wo)(u:Va)(us:List Va):Prop:=RO B 22 1 w u (oR us)/\∀g,u.ownBlock=some g->τ g=0
theorem BP.on{F:TwF}{V V':TwV}{w w':Wo}{B:Nat}{u:Va}{us:List Va}(h:BP V.τ B w u us)(k:TwS F V V' w w'):BP V'.τ B w' u us:=
 ⟨h.1.keep fun g A=>k.kx.box g (h.2 g A) (h.1.lt A).2,fun g A=>(k.tag g (h.1.lt A).2).trans (h.2 g A)⟩
theorem BP.at0{τ:Nat->Nat}{w:Wo}{B:Nat}{g n c:Nat}{us:List Va}(h:BP τ B w (.slice g n c) us){k:Nat}(hk:k<us):w.cell? ⟨g,k,none⟩=some (us k (():aV)):=by
 obtain⟨E,e,D,_⟩:=h.1.rg.elt (k:=k) (by rw[iF];exact hk);obtain rfl:=aZ0 e;have:=D (us k (():aV)) (by rw[BI hk];rfl);rw[Nat.mul_one] at this;have A:((g:aA):Addr).add k=⟨g,k,none⟩:=by unfold Addr.add;by_cases C:k=0<;>simp[C]
 rwa[A] at this
theorem Blk.rgOnes{w:Wo}{g c:Nat}{t:TypeId}{us:List Va}(h:Blk w g t us):RG 1 w (.slice g us c) (oR us):=by
 refine⟨some (g:aA),c,by rw[iF],fun k hk=>⟨_,rfl,fun j u A=>?_⟩⟩;rw[iF] at hk;rw[BI hk] at A;rcases j with _|j
 .have B:((g:aA):Addr).add k=⟨g,k,none⟩:=by
   unfold Addr.add;by_cases C:k=0<;>simp[C]
  rw[Nat.mul_one,Nat.add_zero,B,h.cell k];simp at A;rw[<-A];simp[List.getD,hk]
 .simp at A
theorem A3.one{t0:Nat}{τ:Nat->Nat}{w:Wo}{u:Va}{r:Option (LI)}(h:A3 t0 τ w u r):u.oneCell'=true:=by
 cases r with
 |none=>have:u=.slice none 0 0:=h;rw[this];rfl
 |some p=>obtain⟨A,c,rfl⟩:=jR.form h;rfl
theorem gq{V V':TwV}{n b m:Nat}(h:R8 V n b<m+1)(A:dZ V'.R n n<=dZ V.R n n):LO V' n b<m:=by unfold R8 at h;unfold LO;have:=Nat.mul_le_mul_right (2*n+2) A;omega
theorem IK(F:TwF)(m:Nat)(Bw:OJ F m):US F (m+1):=by
 intro V w b p pv Bn a;have Cr:=zh Bw;clear Bw;have A:=zh a;obtain⟨T,S,rfl⟩:=a.row.form;have Db:=a.small;have Cx:=a.le;rw[a.is.len] at A|-;have Da:=Bn;clear a Bn;have Dj:=fun(w:Wo) (l c:Nat)=>run_neq_slice_nil (P:=prog) w 22 3 none l c underlying22;have Dk:=fun(w:Wo) (Cs:Addr) (l c:Nat)=>run_neq_slice_nil (P:=prog) w 22 3 (some Cs) l c underlying22;obtain⟨n,Ah⟩:=xE F.n;have C:=zh Ah;rw[<-Ah] at Db Cx|-;clear Ah;go_enter func98,ntmps98;go_wp2_with fail;refine(NJ F V w A.tw A.ok.rep A.small _ p b (by rw[C.out];exact A.row.si) A.is A.le A.fix).mono ?_;rintro e w1 ⟨u,k,rfl,hk,Bl,Ab⟩;have μ:=zh Ab;have σ:=zh Bl;rw[<-C.out] at hk;have G:=zh (A.tw.on Ab);obtain⟨s,t,M⟩:=G.box3;rw[<-C.out] at s t M;clear Ab Bl;by_cases Ag:k=n
 .have Cz:((k:Int)==(n:Int))=true:=by rw[eD];omega
  have f:Hid (pN V.R F.n (F.n-b) b p):=aG (σ.1 (by rw[<-C.out];exact Ag));go_wp2_with fail;refine bodyPost_end (results_none rfl _ _ _) rfl ?_;exact A.done μ.out f.out
 .have Cz:((k:Int)==(n:Int))=false:=by rw[eA];omega
  have f:Hid (¬pN V.R F.n (F.n-b) b p):=aG fun h=>Ag (by rw[C.out];exact σ.2 h);have Cw:b<n:=by
   rcases Nat.lt_or_ge b n with h|h
   .exact h
   .exfalso;obtain rfl:b=n:=om;refine f.out ?_;rw[<-C.out,Nat.sub_self];trivial
  have Cf:Hid (¬Ch V.R F.n b p):=aG fun h=>f.out h.2.2;have D:b<F.n:=by rw[<-C.out];exact Cw
  clear σ hk Ag f;go_upto_region 2 with fail;have η:=G.gensAt D;have ξ:=zh (G.gro b D);have Cd:Hid (((V.gu b).map fun u=>[u]).length+1<=100000000):=aG (by have E:=A.caps b zr D;have N:=G.gln b D;have Di:F.n*F.n<=64*64:=Nat.mul_le_mul A.small A.small;rw[aY7];omega)
  have Cb:=zh (G.size);have π:Hid (∀g,(V.gv b).ownBlock=some g->V.τ g=5+2*b):=aG (G.t5 b D);have Cq:Hid (F.B<=w1.heap.size):=aG (by have:=Cb.out;omega);obtain⟨gv,Ae⟩:=xE (V.gv b);have ρ:=zh Ae;rw[<-Ae] at η ξ π;clear Ae;refine db 17 M η fun Aa=>?_;refine dq 0 ?_;refine dq 1 ?_;refine dq 2 ?_;refine dq 3 ?_;refine dq 4 ?_;refine dq 5 ?_;refine dq 6 ?_;refine dq 7 ?_;refine dq 8 ?_;refine dq 9 ?_;refine dq 10 ?_;refine dq 11 ?_;refine dq 12 ?_;try simp only[tz]
  refine dp 13 fun K hK=>?_;go_simp;obtain⟨Dg,Cv,Be,Bf,Bg,z⟩:=uP w1 22 [.slice (some T) n S];rw[Be,Bf];have Az:=zh Bg;have d:=zh z;have Aq:=zh (ξ.below z zr);have Ba:=aE z M;have Bb:=aE z η;clear Be Bf Bg z;refine hK.out _ _ (fun _=>⟨Ba,Bb⟩) (fun O=>?_);clear hK K;replace Aa:=O dC;clear O;try simp only[tz]
  refine dp 14 fun K hK=>?_;refine kQ rfl 22 25 1 24 _ underlying25 infoInts rfl dC dC _ _ rfl F.B gv ((V.gu b).map fun u=>[u]) rfl Aq.out Cv 1 [.slice (some T) n S] rfl rfl (fun j u ι=>(by rcases j with _|j;(simp at ι;subst ι;exact Az.cell 0);(simp at ι))) (by intro u Bu;simp at Bu;subst Bu;rfl) Cd.out (aZ6 Cq d.size) ?_;intro v9 w9 Ai θ Bv;obtain⟨J,L,U,rfl⟩:∃(J:OA) (L U:Nat),v9=.slice J L U:=(by obtain⟨x,y,e⟩:=Ai.form';exact⟨_,_,_,e⟩);have Au:=zh Ai;have Ap:=zh θ;have Ay:=zh Bv;have Z:=zh (G.on d);have An:Hid (Blk w9 F.tb _ _):=aG (Z.box.grown θ (fun e=>(by have E:=π.out _ e.symm;have N:=Z.t1;omega)));have ν:Hid (Blk w9 F.gg _ _):=aG (Z.gens.grown θ (fun e=>(by have E:=π.out _ e.symm;have N:=Z.t3;omega)));have Bc:w9.cell? ⟨F.tb,2,none⟩=some (.slice F.gg n n):=(by rw[C.out];exact An.cell 2);have Cu:=ν.frozen b;have Bd:w9.cell? ⟨F.gg,b,none⟩=some gv:=(by rw[ν.out.cell b,ρ.out];simp[D]);clear Ai θ Bv;refine hK.out _ _ (fun _=>⟨Bc,Bd⟩) (fun O=>?_);clear hK K;replace Aa:=O dC;clear O;try simp only[tz]
  refine dq 15 ?_;try simp only[tz]
  refine dn 16 fun K hK=>?_;go_simp;refine hK.out _ _ (fun h=>aB rfl h) (fun O=>?_);clear hK K;clear O;refine dw ?_;try simp only[tz]
  clear Aa;have χ:Hid (jR F.t0 V.τ Dg (.slice (some T) n S) p):=aG (by have ω:=(A.row.on (TwS.below A.tw μ)).on (TwS.below G d);rw[C.out];exact ω);have v:=Z.addGen D χ.out Au.out (by rw[<-ρ.out];exact Ap.out) (by rw[<-ρ.out];exact Ay.out);have W:=zh (A.facts (u:=.slice (some T) n S) (v9:=.slice J L U) D);have As:=zh (A.loop D v.1);have Cl:=zh (((TwS.below A.tw μ).trans (TwS.below G d)).trans v.2);have Ck:=zh (χ.on v.2);have Y:=zh v.1;have ζ:Hid ((V.addGen b p (.slice (some T) n S) (.slice J L U)).R=V.R):=aG rfl;have Cp:=zh (sX V b p (.slice (some T) n S) (.slice J L U));clear v χ Z Au Ap Ay An ν Bc Cu Bd Ba Bb Aq Az d η s t M;generalize V.addGen b p (.slice (some T) n S) (.slice J L U)=V1 at*;generalize w9.setCell ⟨F.gg,b,none⟩ (.slice J L U)=δ at*;obtain⟨s,t,M⟩:=Y.box3;have Bj:=Y.repsAt D;rw[<-C.out] at s t M Bj;have Aw:=zh (Y.row b D);have o:Hid (((List.range n).map (V1.ru b)).length=n):=aG sM;have Av:Hid (∀y,y∈(List.range n).map (V1.ru b)->y.oneCell'=true):=aG fun y Dd=>by obtain⟨x,Q,rfl⟩:=List.mem_map.1 Dd;exact(Y.rep b x D (by rw[<-C.out];exact List.mem_range.1 Q)).one
  have Ad:=L9 δ ⟨F.rb b,0,none⟩ n ((List.range n).map (V1.ru b)) (by have:=Aw.out;rw[<-C.out] at this;exact this.rgOnes) Av.out (by rw[o.out];omega);rw[o.out] at Ad;have Ao:=zh Ad;clear Ad;go_wp2_with fail;refine Ao.mono ?_;rintro e Df ⟨Bx,rfl,κ,Bh⟩;have At:=zh (As.on Bh);have X:Hid (BP V1.τ δ Df Bx ((List.range n).map (V1.ru b))):=aG ⟨κ,fun g Cy=>Y.new0 (κ.lt Cy).1⟩;obtain⟨Am,Al,rfl⟩:∃(Am Al:Nat),Bx=.slice Am n Al:=by
   rcases κ.1.2 with⟨_,ω⟩|⟨g,Ct,Dh,rfl,_⟩
   .rw[iF,o.out] at ω;omega
   .exact⟨g,Ct,by rw[iF,o.out]⟩
  clear κ Bh Ao s t M Bj Aw Av;go_wp2_with fail;go_loopw [48] (fun Ak wr=>∃(k:Nat) (V':TwV),k<=n/\Ak=(k:aV)/\Hid (iS F V1 δ b (fun q=>∃x r,x<k/\V.R b x=some r/\q=aL r p) V' wr)/\Hid (BP V'.τ δ wr (.slice Am n Al) ((List.range n).map (V1.ru b)))) (fun Ak _=>n-(intOf Ak).toNat)
  case atStart=>exact⟨0,V1,aZ5 _,rfl,aG (At.less fun q ⟨x,r,Q,_⟩=>aB Q (aY5 _)),X⟩
  case round=>
   clear At X As G ξ;obtain⟨j,V',ι,rfl,H,X⟩:=hrel;by_cases Af:j<n
   .have Bs:=X.at0 (k:=j) (by rw[o.out];exact Af);rw[show((List.range n).map (V1.ru b)).getD j (():aV)=V1.ru b j by simp[List.getD,Af]] at Bs;have I:=(Y.rep b j D (by rw[<-C.out];exact Af)).on H.st;rw[ζ.out] at I;generalize V1.ru b j=ru at*;cases hrr:V.R b j with
    |none=>
     rw[hrr] at I;have Dc:ru=.slice none 0 0:=I;subst Dc;have Bm:∀x r,x<j+1->V.R b x=some r->x<j:=fun x r Q E=>by
      rcases Nat.lt_or_ge x j with h|h
      .exact h
      .exfalso;obtain rfl:x=j:=om;rw[hrr] at E;cases E
     have Ce:Hid (iS F V1 δ b (fun q=>∃x r,x<j+1/\V.R b x=some r/\q=aL r p) V' wr):=aG (H.less fun q ⟨x,r,Q,E,N⟩=>⟨x,r,Bm x r Q E,E,N⟩);clear Bm;clear I hrr;go_wp2_with fail;exact⟨⟨j+1,V',om,pC,Ce,X⟩,oI⟩
    |some r=>
     rw[hrr] at I;have Ax:=zh I.row;obtain⟨Dm,Dl,rfl⟩:=I.row.form;have i:Hid (IsP n r):=aG (by rw[C.out];exact A.ok.rep.is _ _ _ hrr);have ψ:=zh hrr;rw[i.out.len] at Ax Bs;have Ci:=zh (Ck.on H.st);have φ:Hid (IsP n p):=aG (by rw[C.out];exact A.is);clear I hrr;go_wp2_with fail;refine(nS wr n _ _ r p Ax.si Ci.si i φ om).mono ?_;rintro e Ca ⟨Bz,rfl,Bo,Ac⟩;have Ar:=zh (H.on Ac);have Cm:=zh (X.on (TwS.below H.tw Ac));have ε:=i.then φ.out;have Cj:Hid (jR F.t0 V'.τ Ca Bz (aL r p)):=aG (H.tw.rowNew Bo (by rw[ε.len];omega) (by rw[ε.len];omega) (ε.i64 om));clear Bo Ac ε;go_wp2_with fail;have Bq:=Ar.pre D A.small W.1 W.2.1 W.2.2.1 (W.2.2.2.1 j r (by rw[ζ.out];exact ψ.out)) (by rw[<-C.out];exact i.then φ) (dN.mul (by rw[<-C.out];exact i.out) A.le (A.ok.rep.fix _ _ _ ψ) A.fix) Cj.out;refine(Cr V' Ca b (aL r p) Bz (gq Da (by have:=H.lack;rwa[ζ.out] at this)) Bq).mono ?_;rintro e Dn ⟨rfl,V2,Bt,Aj,Bp,Bi,Bk⟩;have Cc:=zh ((Ar.step Bt Aj Bp Bi Bk).less (S':=fun q=>∃x r,x<j+1/\V.R b x=some r/\q=aL r p) fun q ⟨x,De,Q,E,N⟩=>by
      by_cases e:x=j
      .subst e;rw[ψ.out] at E;obtain rfl:=aZ0 E;exact .inr N
      .exact .inl ⟨x,De,om,E,N⟩)
     have Co:=zh (Cm.on Aj);clear Bt Aj Bp Bi Bk Bq;go_wp2_with fail;exact⟨⟨j+1,V2,om,pC,Cc,Co⟩,oI⟩
   .obtain rfl:n=j:=om;go_wp2_with fail;refine bodyPost_end (results_none rfl _ _ _) rfl ?_;exact iS.insEnd A.out D Cf.out Cl.out ζ.out Cp.out W.2.2.2.2.2 W.2.2.2.2.1 H.out fun x r Br=>⟨x,r,by rw[C.out];exact YK A.ok.rep Br,Br,rfl⟩
