/- Texts of a claim, merged. -/
import Derived.Test.YtpfhoemohibniaaGreatDoorZA21
set_option maxRecDepth 100000
set_option linter.unusedSimpArgs false
set_option linter.unusedVariables false
set_option maxHeartbeats 32000000
namespace Go.Proofs.YtpfhoemohibniaaGreatDoor
open Go.RowKit
theorem pF(w:World)(a:Nat)(P M b:Int)(Mod xs:LI)(v:Value)(h:GF w a P M Mod)(D:SI w v xs)(hn:xs.length<=100000):
  Calls Tryz.prog 172 #[.pointer (some ⟨a,0,none⟩),.int .i64 b,v] w (pX w (bR (aB P M Mod) b xs)):=by
 obtain⟨A,c,rfl,D⟩:=D;have d:=zh D.si;clear D;have X:=zh h;clear h;have l:=fun(w:World)=>dV xs.length (by omega) w;obtain⟨f,H⟩:∃f:Nat->Int,f=fun i=>bO P M Mod b (xs.getD i 0):=⟨_,rfl⟩
 have Z:Hid (bR (aB P M Mod) b xs=aQ xs.length f):=by rw[H];rfl
 have V:=zh H;clear H;generalize hn2:xs.length=n at*;have N:=zh hn2;clear hn2;go_enter Tryz.func172,Tryz.ntmps172;go_wp2_with fail;clear l;obtain⟨w0,g,Q,R,S,hb⟩:=vZ w n;rw[Q,R];have O:=zh S;have J:=zh hb;have T:w.heap.size<=g:=by omega
 clear Q R S hb;go_wp2_with fail;go_loopw [15] (fun i wr=>∃k:Nat,k<=n/\i=.int .i64 (k:Int)/\Hid (RI wr g (bY n f (fun _=>0) k))/\Hid (Below w.heap.size w wr)) (fun i _=>(n-intOf i).toNat)
 case atStart=>exact⟨0,aZ5 _,rfl,by rw[dA,gH];exact O,J⟩
 case round=>
  clear O J;obtain⟨k,s,rfl,E,C⟩:=hrel;by_cases I:k<n
  .obtain⟨m,x,rfl,r,_,j⟩:=(d.below C zr).elt (k:=k) (by rw[N.out];exact I);have K:=zh (dO (f:=f) (g:=fun _=>0) I);have W:Hid (f k=bO P M Mod b x):=by show _=_;rw[V.out,<-j.out]
   have Y:=zh (X.on C);go_wp2_with fail;refine(mH _ a P M b x Mod Y).mono ?_;rintro e w1 ⟨rfl,G⟩;have F:=zh (E.belowS G);have U:=zh (aA C G);have o:=F.cell k (by rw[cU];exact I);have q:=F.frozen k;clear G;go_wp2_with fail;rw[W.out] at K;exact⟨⟨k+1,by omega,rfl,by rw[<-K.out];exact F.set k _,U.setCell (p:=⟨g,k,none⟩) T _⟩,by simp only[intOf];omega⟩
  .obtain rfl:n=k:=by omega
   rw[cZ,<-Z.out] at E;have L:Hid ((bR (aB P M Mod) b xs).length=n):=by show _=_;rw[gI,N.out]
   go_wp2_with fail;go_ret;have:=E.oi (B:=w.heap.size) T (by rw[L.out];omega);rw[L.out] at this;exact⟨_,rfl,this,C.out⟩
theorem xZ(n:Nat)(h:n<=1000000)(w:World):(Instr.makeSlice 25 (.int .i64 (n:Int)) (.int .i64 (n:Int))).run Tryz.prog w=
  .ok (.slice (some ⟨w.heap.size,0,none⟩) n n) (w.alloc (.cells (madeCells #[.slice none 0 0] n) 22)):=
 run_make_row' (P:=Tryz.prog) 25 22 (.slice none 0 0) 24 Tryz.underlying25 Tryz.infoInts rfl .i64 .i64 n (by omega) (by omega) w
theorem OM.made{B:Nat}(w:World)(n:Nat)(hB:B<=w.heap.size)(h:n<=1000000):OM B (fun g=>g<w.heap.size) (w.alloc (.cells (madeCells #[.slice none 0 0] n) 22)) (.slice (some ⟨w.heap.size,0,none⟩) n n) (List.replicate n []):=by
 have:=World.ownsRow_lit (base:=B) (e:=22) (size:=1) w (madeCells #[.slice none 0 0] n) n hB (by unfold maxLen;omega) (by simp[size_madeCells]);rw[toList_madeCells_one] at this;refine⟨fun _=>.slice none 0 0,?_,fun i hi=>⟨?_,fun g hg=>by simp[Value.ownBlock] at hg⟩,fun i j _ _ _ g hg=>by simp[Value.ownBlock] at hg,fun g hg=>?_⟩
 .rw[List.length_replicate];have e:(List.range n).map (fun _=>(Value.slice none 0 0))=List.replicate n (Value.slice none 0 0):=by rw[List.map_const',List.length_range]
  rw[e];exact this
 .rw[List.length_replicate] at hi;rw[show(List.replicate n ([]:LI)).getD i []=[] by simp[List.getD,List.getElem?_replicate,hi]];exact OI.nil _ _
 .simp[Value.ownBlock] at hg;omega
def jE(rows:LL):Nat->LL
 |0=>List.replicate rows.length []
 |k+1=>(jE rows k).set k (rows.getD k [])
theorem jS(rows:LL):∀k,(jE rows k).length=rows.length
 |0=>by simp[jE]
 |k+1=>by rw[jE,aZ9,jS rows k]
theorem wR(rows:LL):∀k j,j<k->j<rows.length->(jE rows k).getD j []=rows.getD j []
 |0,j,h,_=>by omega
 |k+1,j,h,hj=>by
  rw[jE,cE,jS];by_cases e:k=j
  .subst e;rw[if_pos ⟨rfl,hj⟩]
  .rw[if_neg (fun h=>e h.1)];exact wR rows k j (by omega) hj
theorem kL{a b:LL}(C:a.length=b.length)(h:∀j,j<a.length->a.getD j []=b.getD j []):a=b:=by refine List.ext_getElem C fun j A B=>?_;have:=h j A;rwa[aZ4,aZ4,aZ3 A,aZ3 B] at this
theorem FK(rows:LL):jE rows rows.length=rows:=
 kL (jS rows _) fun j A=>wR rows _ j (by rw[jS] at A;exact A) (by rw[jS] at A;exact A)
def XQ(w:World)(rows:LL)(e:Ending)(w':World):Prop:=∃u,e=.returned u/\OM w.heap.size (fun g=>g<w.heap.size) w' u rows/\Below w.heap.size w w'
theorem tF(w:World)(v:Value)(rows:LL)(F:SS w v rows)(hn:rows.length<=100000):Calls Tryz.prog 113 #[v] w (XQ w rows):=by
 obtain⟨A,c,rfl,F⟩:=F;have R:=zh (show SS w (.slice A rows.length c) rows from⟨A,c,rfl,F⟩);clear F;have U:=fun(w:World)=>xZ rows.length (by omega) w;have K:=zh (OM.made (B:=w.heap.size) w rows.length zr (by omega));have O:Hid (jE rows rows.length=rows):=FK rows;have N:Hid (jE rows 0=List.replicate rows.length []):=rfl;generalize hn2:rows.length=n at*;have J:=zh hn2;clear hn2;go_enter Tryz.func113,Tryz.ntmps113;go_wp2_with fail;clear U;go_loopw [11] (fun i wr=>∃k:Nat,k<=n/\i=.int .i64 (k:Int)/\Hid (OM w.heap.size (fun g=>g<w.heap.size) wr (.slice (some ⟨w.heap.size,0,none⟩) n n) (jE rows k))/\Hid (Below w.heap.size w wr)) (fun i _=>(n-intOf i).toNat)
 case atStart=>exact⟨0,aZ5 _,rfl,by rw[N.out];exact K,aF _ _⟩
 case round=>
  clear K;obtain⟨k,b,rfl,D,C⟩:=hrel;by_cases G:k<n
  .obtain⟨W,V,X,x,rfl,a,S,T⟩:=(R.below C zr).eltA (k:=k) (by rw[J.out];exact G);have P:Hid (jE rows (k+1)=(jE rows k).set k x):=by show _=_;rw[jE,T.out]
   have I:Hid ((jE rows k).length=n):=by show _=_;rw[jS,J.out]
   go_wp2_with fail;refine(iV _ _ x S.si).mono ?_;rintro e w1 ⟨u,rfl,H,E⟩;obtain⟨f,h,rfl⟩:=H.form';have Q:=zh (D.put E (fun g hg=>aY1 hg C.size) (i:=k) (by rw[I.out];exact G) H);have L:=zh (D.below E);have M:=zh (aA C E);have Z:=L.frozen k;obtain⟨d,Y,_,_⟩:=L.row (k:=k) (by rw[I.out];exact G);clear E H;go_wp2_with fail;exact⟨⟨k+1,by omega,rfl,by rw[P.out];exact Q,M.setCell (p:=⟨w.heap.size,k,none⟩) zr _⟩,by simp only[intOf];omega⟩
  .obtain rfl:n=k:=by omega
   rw[O.out] at D;go_wp2_with fail;go_ret;exact⟨_,rfl,D.out,C.out⟩
theorem GC(I w:World)(B a gv n E Ad:Nat)(P M b:Int)(Mod xs ys:LI)(J:Option Addr)(O:Nat)(o:GF I a P M Mod)(Q:Below I.heap.size I w)(τ:I.heap.size<=B)
  (U:OI B w (.slice (some ⟨gv,0,none⟩) n E) xs)(hn:xs.length=n)(u:SI w (.slice J n O) ys)(v:ys.length=n)(s:0<n->∀g,(Value.slice J n O).ownBlock=some g->g≠gv)(Ab:n<=100000)
  (t:∀k,I64 (xs.getD k 0)):
  Calls Tryz.prog 174 #[.pointer (some ⟨a,0,none⟩),.slice (some ⟨gv,0,none⟩) n E,.int .i64 b,.slice J n O] w
   (fun e w'=>e=.returned (.tuple #[])/\OI B w' (.slice (some ⟨gv,0,none⟩) n E) (cH (aB P M Mod) xs b ys)/\w.grownBy w' (some gv)):=by
 obtain⟨f,T⟩:∃f:Nat->Int,f=fun i=>if ys.getD i 0≠0 then dT P M (xs.getD i 0) (bO P M Mod b (ys.getD i 0)) else xs.getD i 0:=⟨_,rfl⟩
 have ζ:Hid (cH (aB P M Mod) xs b ys=aQ n f):=by rw[T,<-hn];rfl
 have V:=zh T;clear T;have μ:=U.lt (g:=gv) rfl;obtain⟨ψ,ω⟩:=μ;have φ:=Q.size;have c:=zh U;have θ:=zh u;have δ:=zh o;have Z:=zh Q;have ξ:=zh hn;have l:=zh v;have ε:=zh s;have ν:=zh t;have X:Hid (bY n f (fun k=>xs.getD k 0) 0=xs):=by show _=_;rw[dA,mP hn]
 clear U u o Q hn v s t;go_enter Tryz.func174,Tryz.ntmps174;go_wp2_with fail;go_loopw [12] (fun i wr=>∃k:Nat,k<=n/\i=.int .i64 (k:Int)/\Hid (OI B wr (.slice (some ⟨gv,0,none⟩) n E) (bY n f (fun k=>xs.getD k 0) k))/\Hid (w.grownBy wr (some gv))) (fun i _=>(n-intOf i).toNat)
 case atStart=>exact⟨0,aZ5 _,rfl,by rw[X.out];exact c,World.grownBy.refl _ _⟩
 case round=>
  clear c X;obtain⟨k,Aa,rfl,C,D⟩:=hrel;by_cases G:k<n
  .obtain⟨π,y,rfl,χ,_,j⟩:=(θ.grown D (fun m g hg e=>ε.out (by rw[l.out] at m;exact m) g hg (aZ0 e).symm)).elt (k:=k) (by rw[l.out];exact G);have F:=C.cell k (by rw[cU];exact G);rw[eJ G] at F;have ρ:=C.frozen k;by_cases H:y=0
   .subst H;have η:Hid (bY n f (fun k=>xs.getD k 0) (k+1)=bY n f (fun k=>xs.getD k 0) k):=qK fun _=>by rw[V.out];dsimp only;rw[j.out,if_neg (by decide)]
    go_wp2_with fail;exact⟨⟨k+1,by omega,rfl,by rw[η.out];exact C,D⟩,by simp only[intOf];omega⟩
   .have Ac:(y !=0)=true:=by simpa using H
    have W:=zh (dO (f:=f) (g:=fun k=>xs.getD k 0) G);generalize hx:xs.getD k 0=x at*;have z:Hid (f k=dT P M x (bO P M Mod b y)):=by show _=_;rw[V.out];dsimp only;rw[j.out,if_pos H,hx]
    rw[z.out] at W;have Y:=zh (δ.on (Z.grown D Z.size fun g e=>by cases e;omega));clear hx H;go_wp2_with fail;refine aM.start (S:=fun w'=>w'.cell? ⟨gv,k,none⟩=some (.int .i64 x)) (by kernel_rfl) (F) (fun R=>?_);change aM _ _ _ _ 14 _ _ _;refine dq 0 ?_;refine dq 1 ?_;refine dq 2 ?_;refine dq 3 ?_;refine dq 4 ?_;refine dq 5 ?_;refine dq 6 ?_;refine dq 7 ?_;refine dq 8 ?_;refine dq 9 ?_;try simp only[tz]
    refine aM.only (i:=10) (by kernel_rfl) rfl (fun K hK=>?_);go_simp;refine(mH _ a P M b y Mod (Y.on (aH _))).mono ?_;rintro e w1 ⟨rfl,q⟩;have L:=zh (aA (aH wr) q);have ι:=aE L.out F;clear q;refine hK.out _ _ (fun _=>ι) (fun A=>?_);clear hK K;replace R:=A (by decide);clear A;try simp only[tz]
    refine aM.only (i:=11) (by kernel_rfl) rfl (fun K hK=>?_);go_simp;refine(uL _ a P M x _ Mod (Y.on L)).mono ?_;rintro e w2 ⟨rfl,r⟩;have N:=zh (aA L r);have d:=zh (C.below N zr);have κ:=aE N.out F;have σ:=d.frozen k;clear r;refine hK.out _ _ (fun _=>κ) (fun A=>?_);clear hK K;replace R:=A (by decide);clear A;try simp only[tz]
    refine dq 12 ?_;try simp only[tz]
    refine aM.only (i:=13) (by kernel_rfl) rfl (fun K hK=>?_);go_simp;refine hK.out _ _ (fun h=>absurd rfl h) (fun A=>?_);clear hK K;clear A;refine aM.done (by kernel_rfl) ?_;try simp only[tz]
    clear R;go_wp2_with fail;refine⟨⟨k+1,by omega,rfl,by rw[<-W.out];exact d.set k _,?_⟩,by simp only[intOf];omega⟩;exact aP (p:=⟨gv,k,none⟩) (aX D (aN N _)) (.inl rfl) _
  .obtain rfl:n=k:=by omega
   rw[cZ,<-ζ.out] at C;go_wp2_with fail;refine bodyPost_end (results_none rfl _ _ _) rfl ?_;exact⟨rfl,C.out,D.out⟩
theorem pE{w w':World}{g b o:Nat}{u:Value}(hg:w.grownBy w' (some g))(h:w.cell? ⟨b,o,none⟩=some u)(B:b≠g):w'.cell? ⟨b,o,none⟩=some u:=by have A:b<w.heap.size:=World.block_lt_of_cell? _ _ h;rw[World.cell?_of_block (w:=w) (hg.block _ A (fun e=>B (aZ0 e)))];exact h
def BS(B:Nat)(X:Nat->Prop)(w:World)(v:Value)(l':LL)(e:Ending)(w':World):Prop:=e=.returned (.tuple #[])/\OM B X w' v l'/\KX B X w w'
theorem wD(w:World)(B g n c gk ga a k:Nat)(X:Nat->Prop)(l:LL)(A:OM B X w (.slice (some ⟨g,0,none⟩) n c) l)(hn:l.length=n)(U:a<n)(W:k<n)(G:a≠k)(Z:X gk)(Y:X ga)
  (S:w.cell? ⟨gk,0,none⟩=some (.int .i64 (k:Int)))(R:w.cell? ⟨ga,0,none⟩=some (.int .i64 (a:Int)))(hB:B<=w.heap.size):
  Calls Tryz.prog 169 #[.slice (some ⟨g,0,none⟩) n c,.pointer (some ⟨gk,0,none⟩),.pointer (some ⟨ga,0,none⟩)] w (BS B X w (.slice (some ⟨g,0,none⟩) n c) (cF l a k)):=by
 have P:=zh A;obtain⟨q,T,L,_⟩:=A.row (k:=a) (by omega);obtain⟨r,I,M,_⟩:=A.row (k:=k) (by omega);have N:=zh T;have O:=zh I;obtain⟨d,f,rfl⟩:=L.form';obtain⟨C,D,rfl⟩:=M.form';have h:=A.frozen a;have i:=A.frozen k;have H:=zh hn;have Q:=zh G;have V:=A.lt (g:=g) rfl;have F:=zh (A.notX (g:=g) rfl);generalize (l.getD a []).length=p at*;generalize (l.getD k []).length=E at*;have j:(w.setCell ⟨g,a,none⟩ (.slice C E D)).cell? ⟨g,k,none⟩=some (.slice C E D):=eP I (fun e=>G (by injection e with e1 e2;exact e2.symm));have K:gk≠g:=fun e=>F.out (e▸Z);have J:ga≠g:=fun e=>F.out (e▸Y);have m:(w.setCell ⟨g,a,none⟩ (.slice C E D)).cell? ⟨gk,0,none⟩=some (.int .i64 (k:Int)):=eP S (fun e=>K (by injection e));have o:(w.setCell ⟨g,a,none⟩ (.slice C E D)).cell? ⟨ga,0,none⟩=some (.int .i64 (a:Int)):=eP R (fun e=>J (by injection e));clear A L M hn G K J;go_enter Tryz.func169,Tryz.ntmps169;go_wp2_with fail
 go_region
 all_goals
  go_wp2_with fail;refine bodyPost_end (results_none rfl _ _ _) rfl ?_;refine⟨rfl,(P.swap (by rw[H.out];exact U) (by rw[H.out];exact W) Q N O).below (aH _),?_⟩;exact(KX.gr (UO (iI w g a k _ _)) hB (fun b e=>by cases e;exact⟨V.1,F.out⟩))
theorem zS(F w:World)(B A g n c g4 gi ga a:Nat)(P M z:Int)(Mod:LI)(X:Nat->Prop)(l:LL)(Q:GF F A P M Mod)(R:Below F.heap.size F w)(ι:F.heap.size<=B)
  (D:OM B X w (.slice (some ⟨g,0,none⟩) n c) l)(hn:l.length=n)(x:a<n)(U:∀g,X g->g<w.heap.size)
  (δ:(l.getD a []).length<=100000)(W:∀k,I64 ((l.getD a []).getD k 0))
  (J:w.cell? ⟨g4,0,none⟩=some (.pointer (some ⟨A,0,none⟩)))(N:w.cell? ⟨gi,0,none⟩=some (.int .i64 z))(L:w.cell? ⟨ga,0,none⟩=some (.int .i64 (a:Int)))(hB:B<=w.heap.size):
  Calls Tryz.prog 171 #[.slice (some ⟨g,0,none⟩) n c,.pointer (some ⟨g4,0,none⟩),.pointer (some ⟨gi,0,none⟩),.pointer (some ⟨ga,0,none⟩)] w
   (BS B X w (.slice (some ⟨g,0,none⟩) n c) (l.set a (bR (aB P M Mod) z (l.getD a [])))):=by
 have I:=zh D;have Z:=zh (Q.below R zr);obtain⟨μ,O,H,_⟩:=D.row (k:=a) (by omega);have f:=zh hn;have p:=zh U;have y:=D.lt (g:=g) rfl;have o:=zh (D.notX (g:=g) rfl);have j:=zh (H.si (by omega) W);obtain⟨Y,ε,rfl⟩:=H.form';have d:=zh δ;clear D Q R hn H W U;generalize hr:l.getD a []=r at*;have η:=zh hr;clear hr;go_enter Tryz.func171,Tryz.ntmps171;go_wp2_with fail;refine aM.start (S:=fun w'=>w'.cell? ⟨g4,0,none⟩=some (.pointer (some ⟨A,0,none⟩))/\w'.cell? ⟨gi,0,none⟩=some (.int .i64 z)/\w'.cell? ⟨ga,0,none⟩=some (.int .i64 (a:Int))/\w'.cell? ⟨g,a,none⟩=some (.slice Y r.length ε)) (by kernel_rfl) (⟨J,N,L,O⟩) (fun T=>?_);change aM _ _ _ _ 11 _ _ _;refine dq 0 ?_;refine dq 1 ?_;refine dq 2 ?_;refine dq 3 ?_;refine dq 4 ?_;refine dq 5 ?_;refine dq 6 ?_;refine dq 7 ?_;try simp only[tz]
 refine aM.only (i:=8) (by kernel_rfl) rfl (fun K hK=>?_);go_simp;refine(pF _ A P M z Mod r _ (Z.on (aH _)) (j.below (aH _) zr) d).mono ?_;rintro e w1 ⟨u,rfl,G,V⟩;obtain⟨ζ,κ,rfl⟩:=G.form';have C:=zh (aA (aH w) V);have m:=zh (G.mono (B':=w.heap.size) zr);have q:=aE C.out J;have s:=aE C.out N;have t:=aE C.out L;have v:=aE C.out O;have θ:=(I.below C).frozen a;clear V G;refine hK.out _ _ (fun _=>⟨q,s,t,v⟩) (fun E=>?_);clear hK K;replace T:=E (by decide);clear E;try simp only[tz]
 refine dq 9 ?_;try simp only[tz]
 refine aM.only (i:=10) (by kernel_rfl) rfl (fun K hK=>?_);go_simp;refine hK.out _ _ (fun h=>absurd rfl h) (fun E=>?_);clear hK K;clear E;refine aM.done (by kernel_rfl) ?_;try simp only[tz]
 clear T;go_wp2_with fail;refine bodyPost_end (results_none rfl _ _ _) rfl ?_;refine⟨rfl,?_,?_⟩
 .exact I.put C.out p.out (by rw[f.out];exact x) m.out
 .exact(KX.of C hB).trans (KX.gr (bF w1 g a _) (aZ6 hB C.size) (fun b e=>by cases e;exact⟨y.1,o.out⟩))
theorem zO(J w:World)(B A g n c L g4 gi gx ga i a:Nat)(P M x:Int)(Mod:LI)(X:Nat->Prop)(l:LL)(z:GF J A P M Mod)(δ:Below J.heap.size J w)(ω:J.heap.size<=B)
  (G:OM B X w (.slice (some ⟨g,0,none⟩) n c) l)(hn:l.length=n)(hi:i<n)(Ac:a<n)(Ad:i≠a)
  (W:∀j,j<n->(l.getD j []).length=L/\∀k,I64 ((l.getD j []).getD k 0))(Ak:0<L)(Ab:L<=100000)(x4:X g4)(Ah:X gi)(Ai:X gx)(Ag:X ga)
  (m:w.cell? ⟨g4,0,none⟩=some (.pointer (some ⟨A,0,none⟩)))(p:w.cell? ⟨gi,0,none⟩=some (.int .i64 (i:Int)))(q:w.cell? ⟨gx,0,none⟩=some (.int .i64 x))(o:w.cell? ⟨ga,0,none⟩=some (.int .i64 (a:Int)))(hB:B<=w.heap.size):
  Calls Tryz.prog 173 #[.slice (some ⟨g,0,none⟩) n c,.pointer (some ⟨g4,0,none⟩),.pointer (some ⟨gi,0,none⟩),.pointer (some ⟨gx,0,none⟩),.pointer (some ⟨ga,0,none⟩)] w
   (BS B X w (.slice (some ⟨g,0,none⟩) n c) (l.set i (cH (aB P M Mod) (l.getD i []) (fZ P M x) (l.getD a [])))):=by
 have κ:=zh G;have d:=zh z;have N:=zh δ;obtain⟨Ao,E,T,I⟩:=G.row (k:=i) (by omega);obtain⟨An,O,Z,_⟩:=G.row (k:=a) (by omega);have Q:=G.apart (i:=a) (k:=i) (by omega) (by omega) (fun e=>Ad e.symm) O E;have ν:=zh hn;have Y:=W i hi;have R:=W a Ac;obtain⟨H,ι,rfl,Ae,Am⟩:=T.form (by omega);have I:=I H rfl;have h:=zh (Z.si (by omega) R.2);obtain⟨U,Af,rfl,_,_⟩:=Z.form (by omega);have Q:=Q U rfl;have Al:U≠H:=fun e=>Q (by rw[e];rfl);have Aj:=zh E;rw[Y.1] at T E;rw[R.1] at O h;have ξ:=zh T;have f:=zh Y;have μ:=zh R;have F:=zh I.2;have η:g≠H:=fun e=>I.1 e.symm;clear I;clear G z δ hn T Z Y R W Q;go_enter Tryz.func173,Tryz.ntmps173;go_wp2_with fail;refine aG.start (S:=fun w'=>w'.cell? ⟨g4,0,none⟩=some (.pointer (some ⟨A,0,none⟩))/\w'.cell? ⟨gi,0,none⟩=some (.int .i64 (i:Int))/\w'.cell? ⟨gx,0,none⟩=some (.int .i64 x)/\w'.cell? ⟨ga,0,none⟩=some (.int .i64 (a:Int))/\w'.cell? ⟨g,i,none⟩=some (.slice (some ⟨H,0,none⟩) L ι)/\w'.cell? ⟨g,a,none⟩=some (.slice (some ⟨U,0,none⟩) L Af)) (by kernel_rfl) (⟨m,p,q,o,E,O⟩) (fun V=>?_);change aG _ _ _ _ 13 _ _ _;refine tq 0 ?_;refine tq 1 ?_;refine tq 2 ?_;refine tq 3 ?_;refine tq 4 ?_;refine tq 5 ?_;refine tq 6 ?_;refine tq 8 ?_;refine tq 9 ?_;refine tq 10 ?_;refine tq 11 ?_;try simp only[tz]
 refine aG.only (i:=7) (by kernel_rfl) rfl (fun K hK=>?_);go_simp;refine(nZ _ A P M x Mod (d.below (N.trans ((aH w).mono N.size)) zr)).mono ?_;rintro e w1 ⟨rfl,ε⟩;have C:=zh (aA (aH w) ε);have r:=aE C.out m;have s:=aE C.out p;have t:=aE C.out q;have u:=aE C.out o;have v:=aE C.out E;have y:=aE C.out O;clear ε;refine hK.out _ _ (⟨r,s,t,u,v,y⟩) ?_;clear hK K V;intro V;try simp only[tz]
 refine aG.only (i:=12) (by kernel_rfl) rfl (fun K hK=>?_);go_simp;refine(GC J _ B A H L ι 0 P M _ Mod _ _ _ _ d (N.trans (C.mono N.size)) ω (ξ.below C zr) f.1 (h.below C zr) μ.1 (fun _ b hb=>by have:U=b:=aZ0 hb;omega) Ab f.2).mono ?_;rintro e w2 ⟨rfl,θ,ζ⟩;have π:=zh θ;have D:=zh ζ;clear θ ζ;have ρ:=pE D.out r (fun e=>F.out (e▸x4));have σ:=pE D.out s (fun e=>F.out (e▸Ah));have τ:=pE D.out t (fun e=>F.out (e▸Ai));have φ:=pE D.out u (fun e=>F.out (e▸Ag));have χ:=pE D.out v η;have ψ:=pE D.out y η;refine hK.out _ _ (⟨ρ,σ,τ,φ,χ,ψ⟩) (fun Aa=>?_);clear hK K;clear Aa;refine aG.done (by kernel_rfl) ?_;try simp only[tz]
 clear V;go_wp2_with fail;refine bodyPost_end (results_none rfl _ _ _) rfl ?_;refine⟨rfl,?_,?_⟩
 .exact(κ.below C).write (by rw[ν.out];exact hi) (aE C.out E) D.out π.out
 .exact(KX.of C hB).trans (KX.gr D (aZ6 hB C.size) (fun b e=>by cases e;exact⟨Ae,F.out⟩))
end Go.Proofs.YtpfhoemohibniaaGreatDoor
