/- Parts. -/
import Derived.Test.YtnpfliklhbkonaaGreatDoorZA20
set_option maxRecDepth 99999
set_option maxHeartbeats 0
set_option linter.unusedSimpArgs false
set_option linter.unusedVariables false
namespace Go.Proofs.YtnpfliklhbkonaaGreatDoor
open Go.Proofs.Tryz
open Go.RowKit
theorem oK(w:Wo)(a:Nat)(P M b:Int)(Mq xs:LI)(v:Va)(h:GF w a P M Mq)(D:SI w v xs)(hn:xs.length<=100000):
 Calls prog 259 #[.pointer a,b,v] w (sN w (bN (aD P M Mq) b xs)):=by
 obtain⟨A,c,rfl,D⟩:=D;have j:=zh D.si;clear D;have Y:=zh h;clear h;have m:=fun(w:Wo)=>dX xs.length om w;obtain⟨f,H⟩:=xE (fun i=>bM P M Mq b (xs i 0):Nat->Int);have d:Hid (bN (aD P M Mq) b xs=aT xs.length f):=by rw[H];rfl
 have W:=zh H;clear H;generalize hn2:xs.length=n at*;have N:=zh hn2;clear hn2;go_enter func259,ntmps259;go_wp2_with fail;clear m;obtain⟨w0,g,Q,R,S,T⟩:=zO w n;rw[Q,R];have O:=zh S;have J:=zh T;have U:w.heap.size<=g:=om;clear Q R S T;go_wp2_with fail;go_loopw [15] (fun i wr=>∃k:Nat,k<=n/\i=(k:aV)/\Hid (RI wr g (bZ n f (fun _=>0) k))/\Hid (Below w.heap.size w wr)) (fun i _=>(n-intOf i).toNat)
 case atStart=>exact⟨0,aZ5 _,rfl,by rw[eT,mC];exact O,J⟩
 case round=>
  clear O J;obtain⟨k,hk,rfl,E,C⟩:=hrel;by_cases I:k<n
  .obtain⟨o,x,rfl,s,_,l⟩:=(j.below C zr).elt (k:=k) (by rw[N.out];exact I);have K:=zh (fQ (f:=f) (g:=fun _=>0) I);have X:Hid (f k=bM P M Mq b x):=by show _=_;rw[W.out,<-l.out]
   have Z:=zh (Y.on C);go_wp2_with fail;refine(lE _ a P M b x Mq Z).mono ?_;rintro e w1 ⟨rfl,G⟩;have F:=zh (E.belowS G);have V:=zh (aC C G);have q:=F.cell k (by rw[fA];exact I);have r:=F.frozen k;clear G;go_wp2_with fail;rw[X.out] at K;exact⟨⟨k+1,om,rfl,by rw[<-K.out];exact F.set k _,V.setCell (p:=⟨g,k,none⟩) U _⟩,oI⟩
  .obtain rfl:n=k:=om;rw[eR,<-d.out] at E;have L:Hid ((bN (aD P M Mq) b xs).length=n):=by show _=_;rw[gL,N.out]
   go_wp2_with fail;go_ret;have:=E.oi (B:=w.heap.size) U (by rw[L.out];omega);rw[L.out] at this;exact⟨_,rfl,this,C.out⟩
theorem BK(n:Nat)(h:n<=1000000)(w:Wo):(Instr.makeSlice 25 (n:aV) (n:aV)).run prog w=
 .ok (.slice w n n) (w.alloc (.cells (madeCells #[()] n) 22)):=
 run_make_row' (P:=prog) 25 22 (():aV) 24 underlying25 infoInts rfl .i64 .i64 n om om w
theorem OM.made{B:Nat}(w:Wo)(n:Nat)(hB:B<=w)(h:n<=1000000):OM B (fun g=>g<w) (w.alloc (.cells (madeCells #[()] n) 22)) (.slice w n n) (List.replicate n []):=by
 have:=World.ownsRow_lit (base:=B) (e:=22) (size:=1) w (madeCells #[()] n) n hB (by unfold maxLen;omega) (by simp[size_madeCells]);rw[toList_madeCells_one] at this;refine⟨fun _=>.slice none 0 0,?_,fun i hi=>⟨?_,fun g A=>by simp[Value.ownBlock] at A⟩,fun i j _ _ _ g A=>by simp[Value.ownBlock] at A,fun g A=>?_⟩
 .rw[eG];have e:(List.range n).map (fun _=>(Value.slice none 0 0))=List.replicate n (Value.slice none 0 0):=by rw[List.map_const',List.length_range]
  rw[e];exact this
 .rw[eG] at hi;rw[show(List.replicate n ([]:LI)).getD i []=[] by simp[List.getD,List.getElem?_replicate,hi]];exact OI.nil _ _
 .simp[Value.ownBlock] at A;omega
def lA(rows:LL):Nat->LL
 |0=>List.replicate rows []
 |k+1=>(lA rows k).set k (rows k [])
theorem lV(rows:LL):∀k,(lA rows k).length=rows.length
 |0=>by simp[lA]
 |k+1=>by rw[lA,aZ9,lV rows k]
theorem AE(rows:LL):∀k j,j<k->j<rows.length->(lA rows k).getD j []=rows j []
 |0,j,h,_=>om
 |k+1,j,h,hj=>by
  rw[lA,fL,lV];by_cases e:k=j
  .subst e;rw[iP ⟨rfl,hj⟩]
  .rw[iN (fun h=>e h.1)];exact AE rows k j om hj
theorem oH{a b:LL}(C:a.length=b.length)(h:∀j,j<a.length->a j []=b j []):a=b:=by refine eK C fun j A B=>?_;have:=h j A;rwa[aZ4,aZ4,aZ3 A,aZ3 B] at this
theorem JI(rows:LL):lA rows rows=rows:=
 oH (lV rows _) fun j A=>AE rows _ j (by rw[lV] at A;exact A) (by rw[lV] at A;exact A)
def kp(w:Wo)(rows:LL)(e:Ending)(w':Wo):Prop:=∃u,e=.returned u/\OM w (fun g=>g<w) w' u rows/\Below w w w'
theorem C9(w:Wo)(v:Va)(rows:LL)(F:SS w v rows)(hn:rows.length<=100000):Calls prog 160 #[v] w (kp w rows):=by
 obtain⟨A,c,rfl,F⟩:=F;have R:=zh (show SS w (.slice A rows.length c) rows from⟨A,c,rfl,F⟩);clear F;have V:=fun(w:Wo)=>BK rows.length om w;have K:=zh (OM.made (B:=w.heap.size) w rows.length zr om);have O:Hid (lA rows rows.length=rows):=JI rows;have N:Hid (lA rows 0=List.replicate rows.length []):=rfl;generalize hn2:rows.length=n at*;have J:=zh hn2;clear hn2;go_enter func160,ntmps160;go_wp2_with fail;clear V;go_loopw [11] (fun i wr=>∃k:Nat,k<=n/\i=(k:aV)/\Hid (OM w.heap.size (fun g=>g<w.heap.size) wr (.slice w.heap.size n n) (lA rows k))/\Hid (Below w.heap.size w wr)) (fun i _=>(n-intOf i).toNat)
 case atStart=>exact⟨0,aZ5 _,rfl,by rw[N.out];exact K,aH _ _⟩
 case round=>
  clear K;obtain⟨k,hk,rfl,D,C⟩:=hrel;by_cases G:k<n
  .obtain⟨X,W,Y,x,rfl,b,S,T⟩:=(R.below C zr).eltA (k:=k) (by rw[J.out];exact G);have P:Hid (lA rows (k+1)=(lA rows k).set k x):=by show _=_;rw[lA,T.out]
   have I:Hid ((lA rows k).length=n):=by show _=_;rw[lV,J.out]
   go_wp2_with fail;refine(iH _ _ x S.si).mono ?_;rintro e w1 ⟨u,rfl,H,E⟩;obtain⟨f,h,rfl⟩:=H.form';have Q:=zh (D.put E (fun g U=>aY1 U C.size) (i:=k) (by rw[I.out];exact G) H);have L:=zh (D.below E);have M:=zh (aC C E);have a:=L.frozen k;obtain⟨d,Z,_,_⟩:=L.row (k:=k) (by rw[I.out];exact G);clear E H;go_wp2_with fail;exact⟨⟨k+1,om,rfl,by rw[P.out];exact Q,M.setCell (p:=⟨w.heap.size,k,none⟩) zr _⟩,oI⟩
  .obtain rfl:n=k:=om;rw[O.out] at D;go_wp2_with fail;go_ret;exact⟨_,rfl,D.out,C.out⟩
theorem KG(I w:Wo)(B a gv n E Ac:Nat)(P M b:Int)(Mq xs ys:LI)(J:OA)(O:Nat)(m:GF I a P M Mq)(Q:Below I I w)(τ:I<=B)
 (T:OI B w (.slice gv n E) xs)(hn:xs=n)(t:SI w (.slice J n O) ys)(u:ys=n)(r:0<n->∀g,(Value.slice J n O).ownBlock=some g->g≠gv)(Aa:n<=100000)
 (s:∀k,I64 (xs k 0)):
 Calls prog 278 #[.pointer a,.slice gv n E,b,.slice J n O] w
  (fun e w'=>e=.returned (.tuple #[])/\OI B w' (.slice gv n E) (cQ (aD P M Mq) xs b ys)/\w.grownBy w' (some gv)):=by
 obtain⟨f,S⟩:=xE (fun i=>if ys i 0≠0 then fW P M (xs i 0) (bM P M Mq b (ys i 0)) else xs i 0:Nat->Int);have ε:Hid (cQ (aD P M Mq) xs b ys=aT n f):=by rw[S,<-hn];rfl
 have U:=zh S;clear S;have μ:=T.lt (g:=gv) rfl;obtain⟨ψ,ω⟩:=μ;have φ:=Q.size;have Z:=zh T;have η:=zh t;have z:=zh m;have Y:=zh Q;have ξ:=zh hn;have j:=zh u;have δ:=zh r;have ν:=zh s;have W:Hid (bZ n f (fun k=>xs k 0) 0=xs):=by show _=_;rw[eT,rY hn]
 clear T t m Q hn u r s;go_enter func278,ntmps278;go_wp2_with fail;go_loopw [12] (fun i wr=>∃k:Nat,k<=n/\i=(k:aV)/\Hid (OI B wr (.slice gv n E) (bZ n f (fun k=>xs k 0) k))/\Hid (w.grownBy wr (some gv))) (fun i _=>(n-intOf i).toNat)
 case atStart=>exact⟨0,aZ5 _,rfl,by rw[W.out];exact Z,World.grownBy.refl _ _⟩
 case round=>
  clear Z W;obtain⟨k,hk,rfl,C,D⟩:=hrel;by_cases G:k<n
  .obtain⟨π,y,rfl,χ,_,d⟩:=(η.grown D (fun l g κ e=>δ.out (by rw[j.out] at l;exact l) g κ (aZ0 e).symm)).elt (k:=k) (by rw[j.out];exact G);have F:=C.cell k (by rw[fA];exact G);rw[fK G] at F;have ρ:=C.frozen k;by_cases H:y=0
   .subst H;have ζ:Hid (bZ n f (fun k=>xs k 0) (k+1)=bZ n f (fun k=>xs k 0) k):=AI fun _=>by rw[U.out];dsimp only;rw[d.out,iN dC]
    go_wp2_with fail;exact⟨⟨k+1,om,rfl,by rw[ζ.out];exact C,D⟩,oI⟩
   .have Ab:(y !=0)=true:=by simpa using H
    have V:=zh (fQ (f:=f) (g:=fun k=>xs k 0) G);generalize hx:xs k 0=x at*;have v:Hid (f k=fW P M x (bM P M Mq b y)):=by show _=_;rw[U.out];dsimp only;rw[d.out,iP H,hx]
    rw[v.out] at V;have X:=zh (z.on (Y.grown D Y.size fun g e=>by cases e;omega));clear hx H;go_wp2_with fail;refine da 14 F fun R=>?_;refine dq 0 ?_;refine dq 1 ?_;refine dq 2 ?_;refine dq 3 ?_;refine dq 4 ?_;refine dq 5 ?_;refine dq 6 ?_;refine dq 7 ?_;refine dq 8 ?_;refine dq 9 ?_;try simp only[tz]
    refine dn 10 fun K hK=>?_;go_simp;refine(lE _ a P M b y Mq (X.on (aI _))).mono ?_;rintro e w1 ⟨rfl,o⟩;have L:=zh (aC (aI wr) o);have θ:=aE L.out F;clear o;refine hK.out _ _ (fun _=>θ) (fun A=>?_);clear hK K;replace R:=A dC;clear A;try simp only[tz]
    refine dn 11 fun K hK=>?_;go_simp;refine(xR _ a P M x _ Mq (X.on L)).mono ?_;rintro e w2 ⟨rfl,q⟩;have N:=zh (aC L q);have c:=zh (C.below N zr);have ι:=aE N.out F;have σ:=c.frozen k;clear q;refine hK.out _ _ (fun _=>ι) (fun A=>?_);clear hK K;replace R:=A dC;clear A;try simp only[tz]
    refine dq 12 ?_;try simp only[tz]
    refine dn 13 fun K hK=>?_;go_simp;refine hK.out _ _ (fun h=>aB rfl h) (fun A=>?_);clear hK K;clear A;refine dw ?_;try simp only[tz]
    clear R;go_wp2_with fail;refine⟨⟨k+1,om,rfl,by rw[<-V.out];exact c.set k _,?_⟩,oI⟩;exact aS (p:=⟨gv,k,none⟩) (bB D (aP N _)) (.inl rfl) _
  .obtain rfl:n=k:=om;rw[eR,<-ε.out] at C;go_wp2_with fail;refine bodyPost_end (results_none rfl _ _ _) rfl ?_;exact⟨rfl,C.out,D.out⟩
theorem rN{w w':Wo}{g b o:Nat}{u:Va}(A:w.grownBy w' (some g))(h:w.cell? ⟨b,o,none⟩=some u)(C:b≠g):w'.cell? ⟨b,o,none⟩=some u:=by have B:b<w.heap.size:=World.block_lt_of_cell? _ _ h;rw[World.cell?_of_block (w:=w) (A.block _ B (fun e=>C (aZ0 e)))];exact h
def EZ(B:Nat)(X:Nat->Prop)(w:Wo)(v:Va)(l':LL)(e:Ending)(w':Wo):Prop:=e=.returned (.tuple #[])/\OM B X w' v l'/\KX B X w w'
theorem zP(w:Wo)(B g n c gk ga a k:Nat)(X:Nat->Prop)(l:LL)(A:OM B X w (.slice g n c) l)(hn:l=n)(U:a<n)(hk:k<n)(G:a≠k)(Y:X gk)(W:X ga)
 (S:w.cell? gk=some (k:aV))(R:w.cell? ga=some (a:aV))(hB:B<=w):
 Calls prog 274 #[.slice g n c,.pointer gk,.pointer ga] w (EZ B X w (.slice g n c) (cY l a k)):=by
 have P:=zh A;obtain⟨p,T,L,_⟩:=A.row (k:=a) om;obtain⟨q,I,M,_⟩:=A.row (k:=k) om;have N:=zh T;have O:=zh I;obtain⟨Z,d,rfl⟩:=L.form';obtain⟨C,D,rfl⟩:=M.form';have f:=A.frozen a;have h:=A.frozen k;have H:=zh hn;have Q:=zh G;have V:=A.lt (g:=g) rfl;have F:=zh (A.notX (g:=g) rfl);generalize (l a []).length=o at*;generalize (l k []).length=E at*;have i:(w.setCell ⟨g,a,none⟩ (.slice C E D)).cell? ⟨g,k,none⟩=some (.slice C E D):=gJ I (fun e=>G (by injection e with e1 e2;exact e2.symm));have K:gk≠g:=fun e=>F.out (e▸Y);have J:ga≠g:=fun e=>F.out (e▸W);have j:(w.setCell ⟨g,a,none⟩ (.slice C E D)).cell? gk=some (k:aV):=gJ S (fun e=>K (by injection e));have m:(w.setCell ⟨g,a,none⟩ (.slice C E D)).cell? ga=some (a:aV):=gJ R (fun e=>J (by injection e));clear A L M hn G K J;go_enter func274,ntmps274;go_wp2_with fail
 go_region
 all_goals
  go_wp2;refine bodyPost_end (results_none rfl _ _ _) rfl ?_;refine⟨rfl,(P.swap (H.out▸U) (H.out▸hk) Q N O).below (aI _),?_⟩;exact(KX.gr (af (lF w g a k _ _)) hB (fun b e=>by cases e;exact⟨V.1,F.out⟩))
theorem DE(F w:Wo)(B A g n c g4 gi ga a:Nat)(P M z:Int)(Mq:LI)(X:Nat->Prop)(l:LL)(Q:GF F A P M Mq)(R:Below F F w)(ζ:F<=B)
 (D:OM B X w (.slice g n c) l)(hn:l=n)(s:a<n)(T:∀g,X g->g<w.heap.size)
 (v:(l a []).length<=100000)(V:∀k,I64 ((l a []).getD k 0))
 (J:w.cell? g4=some (.pointer A))(N:w.cell? gi=some (z:aV))(L:w.cell? ga=some (a:aV))(hB:B<=w):
 Calls prog 276 #[.slice g n c,.pointer g4,.pointer gi,.pointer ga] w
  (EZ B X w (.slice g n c) (l.set a (bN (aD P M Mq) z (l a [])))):=by
 have I:=zh D;have W:=zh (Q.below R zr);obtain⟨ι,O,H,_⟩:=D.row (k:=a) om;have Z:=zh hn;have j:=zh T;have t:=D.lt (g:=g) rfl;have i:=zh (D.notX (g:=g) rfl);have d:=zh (H.si om V);obtain⟨x,η,rfl⟩:=H.form';have Y:=zh v;clear D Q R hn H V T;generalize hr:l a []=r at*;have δ:=zh hr;clear hr;go_enter func276,ntmps276;go_wp2_with fail;refine dd 11 J N L O fun S=>?_;refine dq 0 ?_;refine dq 1 ?_;refine dq 2 ?_;refine dq 3 ?_;refine dq 4 ?_;refine dq 5 ?_;refine dq 6 ?_;refine dq 7 ?_;try simp only[tz]
 refine dn 8 fun K hK=>?_;go_simp;apply(oK _ A P M z Mq r _ (W.on (aI _)) (d.below (aI _) zr) Y).mono;rintro e w1⟨u,rfl,G,U⟩;obtain⟨y,θ,rfl⟩:=G.form';have C:=zh (aC (aI w) U);have f:=zh (G.mono (B':=w.heap.size) zr);have m:=aE C.out J;have o:=aE C.out N;have p:=aE C.out L;have q:=aE C.out O;have ε:=(I.below C).frozen a;clear U G;refine hK.out _ _ (fun _=>⟨m,o,p,q⟩) (fun E=>?_);replace S:=E dC;clear E;try simp only[tz]
 refine dq 9 ?_;try simp only[tz]
 refine dn 10 fun K hK=>?_;go_simp;refine hK.out _ _ (fun h=>aB rfl h) fun _=>?_;refine dw ?_;try simp only[tz]
 clear S;go_wp2;refine bodyPost_end (results_none rfl _ _ _) rfl ?_;refine⟨rfl,?_,?_⟩
 .exact I.put C.out j.out (Z.out▸s) f.out
 .exact(KX.of C hB).trans (KX.gr (aU w1 g a _) (aZ6 hB C.size) (fun b e=>by cases e;exact⟨t.1,i.out⟩))
theorem DB(I w:Wo)(B A g n c L g4 gi gx ga i a:Nat)(P M x:Int)(Mq:LI)(X:Nat->Prop)(l:LL)(y:GF I A P M Mq)(z:Below I I w)(χ:I<=B)
 (G:OM B X w (.slice g n c) l)(hn:l=n)(hi:i<n)(Aa:a<n)(Ac:i≠a)
 (U:∀j,j<n->(l j []).length=L/\∀k,I64 ((l j []).getD k 0))(Aj:0<L)(ω:L<=100000)(x4:X g4)(Ag:X gi)(Ah:X gx)(Af:X ga)
 (h:w.cell? g4=some (.pointer A))(o:w.cell? gi=some (i:aV))(p:w.cell? gx=some (x:aV))(m:w.cell? ga=some (a:aV))(hB:B<=w):
 Calls prog 277 #[.slice g n c,.pointer g4,.pointer gi,.pointer gx,.pointer ga] w
  (EZ B X w (.slice g n c) (l.set i (cQ (aD P M Mq) (l i []) (iO P M x) (l a [])))):=by
 have θ:=zh G;have Z:=zh y;have J:=zh z;obtain⟨Ao,E,R,H⟩:=G.row (k:=i) om;obtain⟨An,N,W,_⟩:=G.row (k:=a) om;have O:=G.apart (i:=a) (k:=i) om om (fun e=>Ac e.symm) N E;have κ:=zh hn;have V:=U i hi;have Q:=U a Aa;obtain⟨S,Ae,rfl,Ad,Al⟩:=R.form om;have H:=H S rfl;have f:=zh (W.si om Q.2);obtain⟨Y,Am,rfl,_,_⟩:=W.form om;have O:=O Y rfl;have Ak:Y≠S:=fun e=>O (by rw[e];rfl);have Ai:=zh E;rw[V.1] at R E;rw[Q.1] at N f;have μ:=zh R;have d:=zh V;have ι:=zh Q;have F:=zh H.2;have ζ:g≠S:=fun e=>H.1 e.symm;clear H;clear G y z hn R W V Q U O;go_enter func277,ntmps277;go_wp2_with fail;refine tf 13 h o p m E N fun T=>?_;refine tq 0 ?_;refine tq 1 ?_;refine tq 2 ?_;refine tq 3 ?_;refine tq 4 ?_;refine tq 5 ?_;refine tq 6 ?_;refine tq 8 ?_;refine tq 9 ?_;refine tq 10 ?_;refine tq 11 ?_;try simp only[tz]
 refine tn 7 fun K hK=>?_;go_simp;apply(xU _ A P M x Mq (Z.below (J.trans ((aI w).mono J.size)) zr)).mono;rintro e w1⟨rfl,δ⟩;have C:=zh (aC (aI w) δ);have q:=aE C.out h;have r:=aE C.out o;have s:=aE C.out p;have t:=aE C.out m;have u:=aE C.out E;have v:=aE C.out N;clear δ;refine hK.out _ _ (⟨q,r,s,t,u,v⟩) ?_;clear hK K T;intro T;try simp only[tz]
 refine tn 12 fun K hK=>?_;go_simp;refine(KG I _ B A S L Ae 0 P M _ Mq _ _ _ _ Z (J.trans (C.mono J.size)) χ (μ.below C zr) d.1 (f.below C zr) ι.1 (fun _ b Ab=>by have:Y=b:=aZ0 Ab;omega) ω d.2).mono ?_;rintro e w2⟨rfl,η,ε⟩;have ν:=zh η;have D:=zh ε;clear η ε;have ξ:=rN D.out q (fun e=>F.out (e▸x4));have π:=rN D.out r (fun e=>F.out (e▸Ag));have ρ:=rN D.out s (fun e=>F.out (e▸Ah));have σ:=rN D.out t (fun e=>F.out (e▸Af));have τ:=rN D.out u ζ;have φ:=rN D.out v ζ;refine hK.out _ _ (⟨ξ,π,ρ,σ,τ,φ⟩) fun _=>?_;refine tw ?_;try simp only[tz]
 clear T;go_wp2;refine bodyPost_end (results_none rfl _ _ _) rfl ?_;refine⟨rfl,?_,?_⟩
 .exact(θ.below C).write (κ.out▸hi) (aE C.out E) D.out ν.out
 .exact(KX.of C hB).trans (KX.gr D (aZ6 hB C.size) (fun b e=>by cases e;exact⟨Ad,F.out⟩))
theorem MN(w:Wo)(a:Nat)(P M:Int)(Mq:LI)(h:GF w a P M Mq):Calls prog 158 #[.pointer a] w (fun e w'=>∃(A:OA) (l c:Nat),e=.returned (.agg #[P,M,.slice A l c])/\Below w w w'):=by
 obtain⟨q,mv,ψ,φ,gl,χ,E,L,I⟩:=h;have V:=zh I.mod;obtain⟨τ,ω,rfl,_⟩:=I.mod;have p:=zh V.len';obtain⟨m,X⟩:=xE Mq.length;have σ:=zh X;have c0:=I.c0;have c1:=I.c1;have c2:=I.c2;rw[<-X] at c2 V;clear I X;go_enter func158,ntmps158;go_upto_region 1 with fail;obtain⟨w1,t2,D,F,d,G⟩:=aR w 24 [.int .i64 0,.int .i64 0,.slice none 0 0];rw[D,F];have Y:=zh G;have r:=zh d;have n:=zh (V.below G zr);have R:=aE G c0;have S:=aE G c1;have T:=aE G c2;have ζ:w<=t2:=om;clear D F d G c0 c1 c2;refine dc 19 R S T fun W=>?_;refine dq 0 ?_;refine dq 1 ?_;refine dq 2 ?_;refine dq 3 ?_;refine dq 4 ?_;refine dq 5 ?_;refine dq 6 ?_;refine dq 7 ?_;refine dq 8 ?_;refine dq 9 ?_;refine dq 11 ?_;refine dq 12 ?_;refine dq 13 ?_;refine dq 14 ?_;refine dq 15 ?_;try simp only[tz]
 refine dp 10 fun K hK=>?_;go_simp;obtain⟨ν,δ,D,F,ε,H⟩:=uP w1 3 [];rw[D,F];have U:=zh H;have Z:Hid (OI w1 ν (.slice δ 0 0) []):=aG (by rw[<-D,<-F];exact(OI.empty w1 zr).below (aI _) zr);have o:=zh (n.below H zr);have i:=aE H R;have j:=aE H S;have k:=aE H T;clear D F ε H;refine hK.out _ _ (fun _=>⟨i,j,k⟩) (fun B=>?_);replace W:=B dC;clear B;try simp only[tz]
 refine dp 16 fun K hK=>?_;refine qX rfl _ _ rfl w1 _ [] rfl Z.out _ Mq rfl o.out (by rw[List.length_nil];have:=p.out;omega) U.size ?_;intro v9 w9 g f η;obtain⟨J,N,O,rfl⟩:∃(J:OA) (N O:Nat),v9=.slice J N O:=(by obtain⟨x,y,e⟩:=g.form';exact⟨_,_,_,e⟩);have C:=zh (Z.bgrown U U.size f);have b:=zh (r.belowS C);have x0:=aE C.out R;have x1:=aE C.out S;have x2:=aE C.out T;obtain⟨ξ,π,ρ,s,t,u⟩:=b.three;clear g f η;refine hK.out _ _ (fun _=>⟨x0,x1,x2⟩) (fun B=>?_);replace W:=B dC;clear B;try simp only[tz]
 refine dq 17 ?_;try simp only[tz]
 refine dn 18 fun K hK=>?_;go_simp;refine hK.out _ _ (fun h=>aB rfl h) fun _=>?_;refine dw ?_;try simp only[tz]
 clear W;clear x0 x1 x2 R S T i j k;obtain⟨Aa,θ,Q⟩:=vB (x:=(P:aV)) (y:=(M:aV)) (z:=.slice J N O) b.out;rw[θ];have ι:=Q.c0;have κ:=Q.c1;have μ:=Q.c2;clear ξ π ρ s t u;go_wp2;refine bodyPost_ret (v:=.agg #[P,M,.slice J N O]) (by simp[results,results158,go_sem,ι,κ,μ]) rfl ?_;exact⟨J,N,O,rfl,Q.below (aC Y C) (aC Y C).size ζ⟩
theorem N6(w:Wo)(a:Nat)(P M:Int)(Mq:LI)(h:GF w a P M Mq):Calls prog 108 #[.pointer a] w (fun e w'=>e=.returned (.tuple #[P,M])/\Below w w w'):=by
 have I:=zh (MN w a P M Mq h);clear h;go_enter func108,ntmps108;go_wp2_with fail;apply I.mono;rintro e w1⟨A,l,c,rfl,D⟩;have F:=zh D;clear D;go_upto_region 2 with fail;obtain⟨w2,N,B,C,J,E⟩:=aR w1 24 [(P:aV),(M:aV),.slice A l c];rw[B,C];have G:=zh (aC F E);obtain⟨K,L,_,_,_,_⟩:=J.three;clear B C E
 go_quiet (fail)
 rename_i nq;have H:=zh (aC G (aY _ nq));go_wp2;go_ret2;exact⟨rfl,H.out⟩
theorem N5(w:Wo)(a:Nat)(P M x:Int)(Mq:LI)(h:GF w a P M Mq)(B:0<=x/\x<aF P M):Calls prog 62 #[.pointer a,x,z0] w (fun e w'=>e=.returned (x:aV)/\Below w w w'):=by
 have I:=zh (N6 w a P M Mq h);have G:=zh h;obtain⟨_,_,L,N,_,_⟩:=bO (show aF P M≠0 from om);have D:Hid (fW P M x 0=x):=aG ((dR h.fld).add_zero x B.1 B.2);obtain⟨m,rfl⟩:∃m:Nat,M=(m:Int):=⟨M.toNat,om⟩
 have O:¬(m:Int)=0:=om;have Q:¬m=0:=om;clear h B;go_enter func62,ntmps62;go_wp2_with fail;apply I.mono;rintro e w1⟨rfl,A⟩;have E:=zh A;have H:=zh (G.on A);clear A;go_wp2;go_loopw [1,21] (fun K J wr=>K=(x:aV)/\J=.int .i64 0/\w1=wr) (fun _ _ _=>0)
 .exact⟨rfl,rfl,rfl⟩
 .obtain⟨rfl,rfl,rfl⟩:=hrel;go_wp2_with fail;apply(xR w1 a P (m:Int) x 0 Mq H).mono;rintro e w2⟨rfl,C⟩;have F:=zh (aC E C);rw[D.out];clear C;go_wp2;go_ret;exact⟨rfl,F.out⟩
