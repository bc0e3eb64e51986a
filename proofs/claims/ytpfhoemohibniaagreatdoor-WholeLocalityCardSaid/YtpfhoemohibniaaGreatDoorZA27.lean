/- Texts of a claim, merged. -/
import Derived.Test.YtpfhoemohibniaaGreatDoorZA15
import Derived.Test.YtpfhoemohibniaaGreatDoorZA25
set_option maxRecDepth 100000
set_option linter.unusedSimpArgs false
set_option maxHeartbeats 32000000
namespace Go.Proofs.YtpfhoemohibniaaGreatDoor
open Go.RowKit
theorem zC(O:aO):∀c,aI O [] c=([],[])
 |0=>rfl
 |c+1=>by rw[aI,zC O c];rfl
theorem CR (w0 w : World) (A : Nat) (P M : Int) (B L : Nat) (Mod : LI) (v : Value) (rows : LL) (F : GF w0 A P M Mod) (D : OM w0.heap.size (fun g => g < w0.heap.size) w v rows)
   (hb:Below w0.heap.size w0 w)(hR:Rows (aC P M) L rows)(H:B<=L)(G:L<=100000)(I:rows.length<=100000):
   Calls Tryz.prog 114 #[.pointer (some ⟨A,0,none⟩),v,.int .i64 (B:Int),.slice none 0 0] w
     (PW w0 v (aI (aB P M Mod) rows B).1 (aI (aB P M Mod) rows B).2):=by
 rcases Nat.eq_zero_or_pos rows.length with C|C
 . obtain rfl:=List.eq_nil_of_length_eq_zero C;obtain⟨E,c,rfl⟩:=D.form;rw[zC];exact NS w0 w A P M Mod B E c D hb
 . obtain⟨g,c,rfl,_,_⟩:=D.formP C;exact JO w0 w A P M B L rows.length g c Mod rows F D rfl C hb hR H G I
theorem SS.takeC{w:World}{A:Option Addr}{n c:Nat}{xss:LL}(h:SS w (.slice A n c) xss){k:Nat}(G:k<=xss.length):SS w (.slice A k k) (xss.take k):=by
 obtain⟨F,c',e,h⟩:=h;injection e with e1 e2 e3;subst e1;have C:(xss.take k).length=k:=by rw[aY3];omega
 refine⟨A,k,by rw[C],by have:=h.len;omega,by omega,fun j B=>?_⟩;rw[C] at B;obtain⟨D,u,e,E,H⟩:=h.cell j (by omega);refine⟨D,u,e,E,?_⟩;rwa[show(xss.take k).getD j []=xss.getD j [] by simp[List.getD,List.getElem?_take,B]]
theorem SS.capLe{w:World}{A:Option Addr}{n c:Nat}{xss:LL}(h:SS w (.slice A n c) xss):n=xss.length/\xss.length<=c:=by
 obtain⟨B,c',e,h⟩:=h;injection e with e1 e2 e3;exact⟨e2,by have:=h.cap;omega⟩
def WF(w:World)(xss:LL)(ys:LI)(e:Ending)(w':World):Prop:=
 ∃A U c,e=.returned (.tuple #[.slice A xss.length xss.length,.slice U ys.length c])/\Sep w.heap.size w' (fun w2=>SS w2 (.slice A xss.length xss.length) xss/\SI w2 (.slice U ys.length c) ys)/\SSb (fun g=>w.heap.size<=g) w' (.slice A xss.length xss.length) xss/\Below w.heap.size w w'
theorem tD(w:World)(A:Nat)(P M:Int)(n:Nat)(Mod:LI)(v:Value)(rows:LL)(E:GF w A P M Mod)(Q:SS w v rows)(hR:Rows (aC P M) n rows)(q:n<=100000)(hn:rows.length<=100000):
  Calls Tryz.prog 157 #[.pointer (some ⟨A,0,none⟩),v,.int .i64 (n:Int)] w (WF w (bC (aB P M Mod) rows n) (jX (aB P M Mod) rows n)):=by
 have X:=zh E;have m:=zh Q;have b:=zh hR;have L:=E.fld;have Y:=zh (eW L.1 Mod);have z:=aK P M;have C:=zh (bX (dU L) hR).1;have W:=zh (Rows.elim Y hR n);have t:=eQ (aB P M Mod) rows n;have x:=(jT (aB P M Mod) rows n)
 have H:Hid (bC (aB P M Mod) rows n=(aI (aB P M Mod) rows n).1.take (aI (aB P M Mod) rows n).2.length):=rfl;have I:Hid (jX (aB P M Mod) rows n=(aI (aB P M Mod) rows n).2):=rfl;clear E Q hR;go_enter Tryz.func157,Tryz.ntmps157;go_wp2_with fail;refine(tF _ v rows m hn).mono ?_;rintro e w1 ⟨u,rfl,B,hb⟩;have Z:=zh B;have T:=zh hb;clear B hb;go_wp2_with fail;refine(CR w w1 A P M n n Mod u rows X Z T b zr q hn).mono ?_;rintro e w2 ⟨U,d,rfl,B,hi,hb⟩;generalize (aI (aB P M Mod) rows n).1=l at*;generalize (aI (aB P M Mod) rows n).2=p at*;obtain⟨S,c,rfl⟩:=B.form;have F:=B.os (fun j r=>by have h:=W.out j r;exact⟨by rw[h.1];omega,fun k=>by have:=h.2 k;exact I64.of_small (by omega) (by omega)⟩);have G:=F.sep (fun g hg=>.inl hg) (by omega);have O:=F.ssb (by omega) (fun g hg=>.inl hg);obtain⟨_,s⟩:=G.out.capLe;obtain⟨J,R,rfl⟩:=hi.form';have N:p.length<=l.length:=by omega
 have f:=zh (G.imp fun _ h=>h.takeC N);have i:=zh (O.takeC N);have a:Hid (Sep w.heap.size w2 fun w2=>SI w2 (.slice J p.length R) p):=aD (hi.sep (by omega) (fun k=>by
  by_cases y:k<p.length
  .have hA:(bC (aB P M Mod) rows n).length=p.length:=by rw[H.out,aY3];omega
   have K:=C.nn k (by omega);have o:=C.lt k (by omega);rw[I.out] at K o;rw[K];exact I64.of_small (by omega) (by omega)
  .rw[aW (by omega)];exact I64.zero))
 have V:=zh hb;have D:Hid ((l.take p.length).length=p.length):=by show _=_;rw[aY3];omega
 clear B hi hb F G O;clear C;go_wp2_with fail;go_ret2;rw[H.out,I.out];refine⟨S,J,R,?_,?_,?_,V.out⟩
 .rw[D.out];rfl
 .rw[D.out];exact f.and a.out
 .rw[D.out];exact i.out
def PV(w:World)(n:Nat)(xss:LL)(ys:LI)(e:Ending)(w':World):Prop:=
 ∃A U c,e=.returned (.tuple #[.agg #[.int .i64 (n:Int),.slice A xss.length xss.length],.slice U ys.length c,.int .i64 0])/\Sep w.heap.size w' (fun w2=>SS w2 (.slice A xss.length xss.length) xss/\SI w2 (.slice U ys.length c) ys)/\SSb (fun g=>w.heap.size<=g) w' (.slice A xss.length xss.length) xss/\Below w.heap.size w w'
theorem oF(w w1:World)(P M:Int)(n B:Nat)(mv A:Value)(Mod:LI)(rows:LL)(G:Below w.heap.size w w1)(I:w1.heap.size=B)(hm:SI w mv Mod)(J:SS w A rows)(D:dK P M Mod n rows=0):
  Calls Tryz.prog 111 #[.agg #[.int .i64 P,.int .i64 M,mv],.slice (some ⟨B,0,none⟩) 1 1] (w1.alloc (.cells #[.int .i64 (n:Int),A] 86))
   (fun e w2=>∃a,e=.returned (.tuple #[.pointer (some ⟨a,0,none⟩),.int .i64 0])/\GF w2 a P M Mod/\Below w1.heap.size w1 w2):=by
 have E:=(dE D).1;have hb:=aA G (aF w1 (.cells #[.int .i64 (n:Int),A] 86));have C:=Blk.new w1 86 [.int .i64 (n:Int),A];rw[I] at C;refine(zR _ P M n mv A B Mod rows (hm.below hb zr) (J.below hb zr) E (C.cell 0) (C.cell 1)).mono ?_;rintro e w2 ⟨F,_⟩;obtain⟨a,rfl,hg,H⟩:=F (by rw[<-uT E];exact D);exact⟨a,rfl,hg.out,aA (aF w1 _) H⟩
theorem RZ(w w1:World)(P M:Int)(A:Int)(D:Nat)(mv B:Value)(Mod:LI)(rows:LL)(I:Below w.heap.size w w1)(J:w1.heap.size=D)(hm:SI w mv Mod)(K:SS w B rows)(G:dK P M Mod A rows≠0):
  Calls Tryz.prog 111 #[.agg #[.int .i64 P,.int .i64 M,mv],.slice (some ⟨D,0,none⟩) 1 1] (w1.alloc (.cells #[.int .i64 A,B] 86))
   (fun e w2=>e=.returned (.tuple #[.pointer none,.int .i64 (dK P M Mod A rows)])/\Below w1.heap.size w1 w2):=by
 have hb:=aA I (aF w1 (.cells #[.int .i64 A,B] 86));have E:=Blk.new w1 86 [.int .i64 A,B];rw[J] at E;by_cases C:cK P M Mod
 .refine(zR _ P M A mv B D Mod rows (hm.below hb zr) (K.below hb zr) C (E.cell 0) (E.cell 1)).mono ?_;rintro e w2 ⟨_,H⟩;rw[uT C] at G|-;obtain⟨rfl,F⟩:=H G;exact⟨rfl,aA (aF w1 _) F⟩
 .refine(NV _ P M mv _ Mod (hm.below hb zr) C).mono ?_;rintro e w2 ⟨rfl,F⟩;rw[VD C];exact⟨rfl,aA (aF w1 _) F⟩
structure FMQ(w w1:World)(P M:Int)(mv:Value)(cols:Int)(rv:Value):Prop where
 fm:fU w w1 P M mv cols rv
 q:Blk w1 (w.heap.size+1+1) 86 [.int .i64 0,.slice none 0 0]
theorem FMQ.on{w w1 w2:World}{P M:Int}{mv:Value}{A:Int}{B:Value}(h:FMQ w w1 P M mv A B)(hb:Below w1.heap.size w1 w2):FMQ w w2 P M mv A B:=⟨h.fm.on hb,h.q.belowS hb⟩
theorem FMQ.mk'(w:World)(P M:Int)(mv:Value)(A:Int)(B:Value):∃w1,((w.alloc (.cells #[.int .i64 P,.int .i64 M,mv] 24)).alloc (.cells #[.int .i64 A,B] 86)).alloc (.cells #[.int .i64 0,.slice none 0 0] 86)=w1/\
  FMQ w w1 P M mv A B/\w1.heap.size=w.heap.size+1+1+1:=by
 refine⟨_,rfl,⟨(fU.mk' w P M mv A B).on (aF _ _),?_⟩,?_⟩
 .have:=Blk.new ((w.alloc (.cells #[.int .i64 P,.int .i64 M,mv] 24)).alloc (.cells #[.int .i64 A,B] 86)) 86 [.int .i64 0,.slice none 0 0];rw[World.size_alloc,World.size_alloc] at this;exact this
 .rw[World.size_alloc,World.size_alloc,World.size_alloc]
theorem kC(w:World)(P M:Int)(n:Nat)(mv V:Value)(Mod:LI)(rows:LL)(hm:SI w mv Mod)(T:SS w V rows)(H:dK P M Mod n rows=0):
  Calls Tryz.prog 95 #[.agg #[.int .i64 P,.int .i64 M,mv],.agg #[.int .i64 (n:Int),V]] w (PV w n (bC (aB P M Mod) rows n) (jX (aB P M Mod) rows n)):=by
 have Z:=zh hm;have E:=zh T;clear hm T;obtain⟨j,_,hn,l,hR⟩:=dE H;rw[aZ8] at hR;have b:=zh hR;have X:=zh H;clear H hR j;obtain⟨h,t,rfl,_⟩:=E.out;obtain⟨r,I⟩:∃r,r=rows.length:=⟨_,rfl⟩
 rw[<-I] at E l|-;have c:=zh I;clear I;obtain⟨w1,L,hq,m⟩:=FMQ.mk' w P M mv n (.slice h r t);have A:=zh hq;have J:=zh L;clear hq L;go_enter Tryz.func95,Tryz.ntmps95;go_wp2_with fail;rw[J.out];clear J;have c0:=A.fm.fb.c0;have c1:=A.fm.fb.c1;have c2:=A.fm.fb.c2;have d0:=A.fm.d0;have d1:=A.fm.d1;go_wp2_with fail;refine(oF w w1 P M n _ mv _ Mod rows A.fm.fb.bel m Z E X).mono ?_;rintro e w2 ⟨a,rfl,hg,N⟩;have Y:=zh hg;have B:=zh (A.on N);clear hg N c0 c1 c2 d0 d1 A;have d0:=B.fm.d0;have d1:=B.fm.d1;go_wp2_with fail;refine(tD w2 a P M n Mod _ rows Y (E.below B.fm.fb.bel zr) b (by omega) (by rw[<-c.out];omega)).mono ?_;rintro e η ⟨F,U,W,rfl,R,S,O⟩;have δ:=B.q.lt;generalize hkk:(bC (aB P M Mod) rows n).length=k at*;generalize hpp:(jX (aB P M Mod) rows n).length=p at*;have G:=zh hkk;have K:=zh hpp;clear hkk hpp;have d:=zh R;have f:=zh S;have D:=zh (B.on O);clear R S O d0 d1;have d0:=D.fm.d0;obtain⟨ε,ζ,u,z⟩:=D.q.two;go_wp2_with fail;obtain⟨θ,i,C⟩:=oD (x:=.int .i64 (n:Int)) (y:=.slice F k k) D.q;rw[i];have o:=C.c0;have s:=C.c1;refine bodyPost_ret (v:=.tuple #[.agg #[.int .i64 (n:Int),.slice F k k],.slice U p W,.int .i64 0]) (by simp[results,Tryz.results95,go_sem,o,s]) rfl ?_;have Q:=B.fm.fb.bel.size;refine⟨F,U,W,?_,?_,?_,C.below D.fm.fb.bel D.fm.fb.bel.size (by omega)⟩
 .rw[G.out,K.out]
 .rw[G.out,K.out];exact(d.grown C.gr (by rintro g e;cases e;omega)).mono Q
 .rw[G.out];exact(f.grown C.gr (by rintro g e;cases e;show ¬w2.heap.size<=_;omega)).imp fun g hg _=>aZ6 Q hg
theorem BF(w:World)(P M B:Int)(mv O:Value)(Mod:LI)(rows:LL)(hm:SI w mv Mod)(N:SS w O rows)(G:dK P M Mod B rows≠0):
  Calls Tryz.prog 95 #[.agg #[.int .i64 P,.int .i64 M,mv],.agg #[.int .i64 B,O]] w (fun e w'=>e=.returned (.tuple #[.agg #[.int .i64 0,.slice none 0 0],.slice none 0 0,.int .i64 (dK P M Mod B rows)])/\Below w.heap.size w w'):=by
 have R:=zh hm;have E:=zh N;clear hm N;have I:=zh G;have hb:(dK P M Mod B rows !=0)=true:=by rw[bne_iff_ne];exact G
 clear G;obtain⟨S,X,rfl,_⟩:=E.out;generalize rows.length=r at E|-;obtain⟨w1,K,hq,U⟩:=FMQ.mk' w P M mv B (.slice S r X);have A:=zh hq;have J:=zh K;clear hq K;go_enter Tryz.func95,Tryz.ntmps95;go_wp2_with fail;rw[J.out];clear J;have c0:=A.fm.fb.c0;have c1:=A.fm.fb.c1;have c2:=A.fm.fb.c2;have d0:=A.fm.d0;have d1:=A.fm.d1;go_wp2_with fail;refine(RZ w w1 P M B _ mv _ Mod rows A.fm.fb.bel U R E I).mono ?_;rintro e w2 ⟨rfl,L⟩;have C:=zh (A.on L);clear L c0 c1 c2 d0 d1 A;obtain⟨F,H⟩:∃F,F=dK P M Mod B rows:=⟨_,rfl⟩
 rw[<-H] at hb I|-;have Q:=zh H;clear H;obtain⟨a,b,Y,Z⟩:=C.q.two;go_wp2_with fail;obtain⟨c,T,D⟩:=oD (x:=.int .i64 0) (y:=.slice none 0 0) C.q;rw[T];have V:=D.c0;have W:=D.c1;refine bodyPost_ret (v:=.tuple #[.agg #[.int .i64 0,.slice none 0 0],.slice none 0 0,.int .i64 F]) (by simp[results,Tryz.results95,go_sem,V,W]) rfl ?_;exact⟨by rw[<-Q.out],D.below C.fm.fb.bel C.fm.fb.bel.size (by omega)⟩
theorem NJ(w:World)(v:Value)(xs:LI)(y:Int)(C:SI w v xs):Calls Tryz.prog 91 #[v,.int .i64 y] w (fun e w'=>∃z,e=.returned (.int .i64 z)/\decide (0<=z)=(xs.any fun x=>x==y)/\w=w'):=by
 obtain⟨A,c,rfl,C⟩:=C;have hn:=C.len;have I:=zh C;clear C;go_enter Tryz.func91,Tryz.ntmps91;go_wp2_with fail;go_loop [8] (fun i=>∃k:Nat,k<=xs.length/\i=.int .i64 (k:Int)/\Hid (∀j,j<k->xs.getD j 0≠y)) (fun i=>xs.length-(intOf i).toNat)
 case atStart=>exact⟨0,aZ5 _,rfl,aD fun j D=>absurd D (aY5 _)⟩
 case round=>
   obtain⟨k,M,rfl,G⟩:=hrel;by_cases F:k<xs.length
   . obtain⟨K,x,rfl,L,_,H⟩:=I.elt F;by_cases B:y=x
     . have hb:(y==x)=true:=by simpa using B
       have E:Hid ((xs.any fun x=>x==y)=true):=by show _=_;rw[List.any_eq_true];exact⟨xs.getD k 0,by rw[aZ4,aZ3 F];exact aY6 F,by rw[beq_iff_eq,H.out];exact B.symm⟩
       clear B;go_wp2_with fail;go_ret;exact⟨_,rfl,by rw[E.out,decide_eq_true_eq];show(0:Int)<=(k:Int);omega,rfl⟩
     . have hb:(y==x)=false:=by simpa using B
       have J:=zh B;clear B;go_wp2_with fail;go_round
       case rel=>exact⟨k+1,by omega,by go_num,aD fun j D=>by
         by_cases e:j=k
         . subst e;rw[H.out];exact fun h=>J.out h.symm
         . exact G.out j (by omega)⟩
       case measure=>simp[intOf];omega
   . have E : Hid ((xs.any fun x => x == y) = false) := by
       show _=_;rw[List.any_eq_false];intro x B e;rw[beq_iff_eq] at e;obtain⟨j,D,rfl⟩:=List.mem_iff_getElem.1 B;refine G.out j (by omega) ?_;rw[aZ4,aZ3 D];exact e
     go_wp2_with fail;go_ret;exact⟨_,rfl,by rw[E.out];rfl,rfl⟩
theorem cQ(w:World)(v:Value)(xs:LI)(y:Int)(A:SI w v xs):Calls Tryz.prog 48 #[v,.int .i64 y] w (fun e w'=>e=.returned (.bool (xs.any fun x=>x==y))/\w=w'):=by have C:=zh A;clear A;go_enter Tryz.func48,Tryz.ntmps48;go_wp2_with fail;refine(NJ _ v xs y C).mono ?_;rintro e w1 ⟨z,rfl,B,rfl⟩;have D:=zh B;clear B;go_wp2_with fail;go_ret;exact⟨by rw[<-D.out];rfl,rfl⟩
def mR(w:World)(n:Nat)(xss:LL)(e:Ending)(w':World):Prop:=
 ∃u,e=.returned (.tuple #[.agg #[.int .i64 (n:Int),u],.int .i64 0])/\Sep w.heap.size w' (fun w2=>SS w2 u xss)/\Below w.heap.size w w'
theorem zM(w:World)(P M:Int)(n:Nat)(mv Au:Value)(Mod:LI)(rows:LL)(hm:SI w mv Mod)(As:SS w Au rows)(π:dK P M Mod n rows=0):
  Calls Tryz.prog 93 #[.agg #[.int .i64 P,.int .i64 M,mv],.agg #[.int .i64 (n:Int),Au]] w (mR w n (cA (aB P M Mod) rows n)):=by
 have Bi:=zh hm;have V:=zh As;clear hm As;obtain⟨ρ,_,hn,Ch,hR⟩:=dE π;rw[aZ8] at hR;have hO:=dU ρ;obtain⟨hA,_⟩:=bX hO hR;have Bs:=zh hR;have Be:=zh π;have Bf:=zh hO;have Cu:=zh ρ;have Bj:Hid (cA (aB P M Mod) rows n=bC (aB P M Mod) (bQ (aB P M Mod) (bC (aB P M Mod) rows n) (jX (aB P M Mod) rows n) n n) n):=rfl;have Bm:=zh (kV hO hA);have Cc:(bC (aB P M Mod) rows n).length<=n:=by have X:=(jT (aB P M Mod) rows n).2;have Aj:(bC (aB P M Mod) rows n).length=(jX (aB P M Mod) rows n).length:=hA.len.symm;rw[Aj];exact X
 have f:=aK P M;have Bq:=zh f;clear π hR ρ hO f;obtain⟨Bz,Cq,rfl,_⟩:=V.out;obtain⟨χ,G⟩:∃χ,χ=rows.length:=⟨_,rfl⟩
 rw[<-G] at V Ch|-;have Bt:=zh G;clear G;obtain⟨w1,Ai,hq,Cj⟩:=FMQ.mk' w P M mv n (.slice Bz χ Cq);have E:=zh hq;have ω:=zh Ai;clear hq Ai;have Df:=fun(w:World)=>dV n (by omega) w;have O:=zh hA;clear hA;go_enter Tryz.func93,Tryz.ntmps93;go_wp2_with fail;rw[ω.out];clear ω;have c0:=E.fm.fb.c0;have c1:=E.fm.fb.c1;have c2:=E.fm.fb.c2;have d0:=E.fm.d0;have d1:=E.fm.d1;go_wp2_with fail;refine(oF w w1 P M n _ mv _ Mod rows E.fm.fb.bel Cj Bi V Be).mono ?_;rintro e w2 ⟨a,rfl,hg,Al⟩;have Aa:=zh hg;have L:=zh (E.on Al);clear hg Al c0 c1 c2 d0 d1 E;have d0:=L.fm.d0;have d1:=L.fm.d1;go_wp2_with fail;refine(tD w2 a P M n Mod _ rows Aa (V.below L.fm.fb.bel zr) Bs (by omega) (by rw[<-Bt.out];omega)).mono ?_;rintro e F ⟨Cs,U,Dp,rfl,Q,_,ν⟩;have Dd:=L.q.lt;have ε:=zh (L.on ν);have Ab:=zh (Aa.on ν);have j:=O.len;generalize bC (aB P M Mod) rows n=A at*;generalize jX (aB P M Mod) rows n=p at*;obtain⟨r,G⟩:∃r,r=A.length:=⟨_,rfl⟩
 rw[j] at Q|-;rw[<-G] at Cc j Q|-;have K:=zh G;have Ad:=zh j;clear G j;have Ay:=zh Q.out.1;have z:=zh Q.out.2;have Ce:∀i,i<r->pvt p i<n:=fun i hi=>O.lt i (by rw[<-K.out];exact hi);clear Q ν d0 d1;have d0:=ε.fm.d0;go_wp2_with fail;clear d0;go_loopw [10,37] (fun u i wr=>∃(c l:Nat) (H:Option Addr) (J:Nat),c<=n/\i=.int .i64 (c:Int)/\u=.slice H l J/\Hid ((bQ (aB P M Mod) A p n c).length=l)/\Hid (OS F.heap.size (fun _=>False) wr (.slice H l J) (bQ (aB P M Mod) A p n c))/\Hid (Below F.heap.size F wr)) (fun _ i _=>n-(intOf i).toNat)
 case atStart=>exact⟨0,0,none,0,aZ5 _,rfl,rfl,rfl,OS.nil _ _ _,bE _⟩
 case round=>
  obtain⟨c,l,H,J,Da,rfl,rfl,Bk,D,C⟩:=hrel;have d0:=(ε.on C).fm.d0;by_cases ξ:c<n
  .cases hpv:mQ p c
   .have δ:Hid ((p.any fun x=>x==(c:Int))=false):=hpv;have T:Hid (bQ (aB P M Mod) A p n (c+1)=bQ (aB P M Mod) A p n c++[bZ (aB P M Mod) A p n c r]):=aD (by show _=_;rw[bQ,if_neg (by rw[hpv];decide),Ad.out]);clear hpv;have W:=zh (RI.made wr n);have Cl:(wr.alloc (.cells (madeCells #[.int .i64 0] n) 3)).cell? ⟨wr.heap.size,c,none⟩=some (.int .i64 0):=by
     have:=W.cell c (by simp;exact ξ);rw[this];simp[List.getD,List.getElem?_replicate,ξ]
    have Cm:=W.frozen c;have ι:Hid (RI ((wr.alloc (.cells (madeCells #[.int .i64 0] n) 3)).setCell ⟨wr.heap.size,c,none⟩ (.int .i64 1)) wr.heap.size (bZ (aB P M Mod) A p n c 0)):=aD (W.set c 1);have Aq:=bF (wr.alloc (.cells (madeCells #[.int .i64 0] n) 3)) wr.heap.size c (.int .i64 1);have o:Hid (∀g,(Value.slice H l J).ownBlock=some g->g≠wr.heap.size):=aD fun g hg=>by have:=D.lt hg;omega
    have s:=zh (((D.names (Y:=fun g=>g=wr.heap.size) (fun g X Aj=>by omega)).alloc (.cells (madeCells #[.int .i64 0] n) 3)).grown Aq (fun g e=>by have μ:=aZ0 e;subst μ;exact⟨fun h=>o.out _ h rfl,rfl⟩));have τ:=C.size;have m:=zh ((C.alloc τ (.cells (madeCells #[.int .i64 0] n) 3)).setCell (p:=⟨wr.heap.size,c,none⟩) τ (.int .i64 1));clear W Aq D;have Ar:=World.setCell_alloc_at (w:=wr) (madeCells #[.int .i64 0] n) 3 wr.heap.size c (.int .i64 1) rfl;rw[Ar] at ι s m;clear Ar;go_wp2_with fail;refine(cQ _ _ p (c:Int) (z.below C zr)).mono ?_;rintro e Cr ⟨rfl,rfl⟩;rw[δ.out];go_wp2_with fail;clear Cl Cm C d0;generalize wr.alloc (.cells ((madeCells #[.int .i64 0] n).setIfInBounds c (.int .i64 1)) 3)=Av at*;generalize hgx:wr.heap.size=gx at*;clear hgx;go_loopw [51] (fun i wr=>∃b:Nat,b<=r/\i=.int .i64 (b:Int)/\Hid (RI wr gx (bZ (aB P M Mod) A p n c b))/\Hid (OS F.heap.size (fun g=>g=gx) wr (.slice H l J) (bQ (aB P M Mod) A p n c))/\Hid (Below F.heap.size F wr)) (fun i _=>r-(intOf i).toNat)
    case atStart=>exact⟨0,aZ5 _,rfl,ι,s,m⟩
    case round=>
     clear ι s m;obtain⟨b,hb,rfl,θ,D,C⟩:=hrel;by_cases I:b<r
     .obtain⟨Dj,Dt,rfl,Dh,_,Ah⟩:=(z.below C zr).elt (k:=b) (by rw[Ad.out];exact I);have At:=Ah.out;rw[O.out.nn b (by rw[<-K.out];exact I)] at At;subst At;have Cf:=Ce b I;obtain⟨Dm,Ct,Cx,row,rfl,Db,Ae,η⟩:=(Ay.below C zr).eltA (k:=b) (by rw[<-K.out];exact I);have Ci:row.length=n:=by rw[<-η.out];exact(O.rows b (by rw[<-K.out];exact I)).1
      obtain⟨Dn,y,rfl,Di,_,By⟩:=Ae.elt (k:=c) (by rw[Ci];exact ξ);have Bg:Hid ((bZ (aB P M Mod) A p n c b).set (pvt p b) (fZ P M y)=bZ (aB P M Mod) A p n c (b+1)):=aD (by show _=_;rw[bZ,show ent A b c=y by unfold ent;rw[η.out,By.out]];rfl);have Dc:c<row.length:=by omega
      have Br:Hid (pvt p b<(bZ (aB P M Mod) A p n c b).length):=aD (by rw[fY];exact Cf);clear η Ae Ah;generalize pvt p b=R at*;go_wp2_with fail;refine(nZ _ a P M y Mod (Ab.on C)).mono ?_;rintro e Aw ⟨rfl,Z⟩;have κ:=zh (θ.belowS Z);have Bo:=zh (D.below Z);have Ba:=zh (aA C Z);have Do:=κ.cell R Br.out;have Dr:=κ.frozen R;clear Z;go_wp2_with fail;have Ag:=zh (κ.set R (fZ P M y));rw[Bg.out] at Ag;have Bp:=zh (Bo.grown (bF Aw gx R (.int .i64 (fZ P M y))) (fun g e=>by have μ:=aZ0 e;subst μ;exact⟨fun h=>o.out _ h rfl,rfl⟩));have Bb:=zh (Ba.setCell (p:=⟨gx,R,none⟩) τ (.int .i64 (fZ P M y)));exact⟨⟨b+1,by omega,by push_cast;rfl,Ag,Bp,Bb⟩,by simp only[intOf];omega⟩
     .obtain rfl:b=r:=by omega
      have Cd:=θ.lt;have f:=Bq.out;have Bx:Hid (SI wr (.slice (some ⟨gx,0,none⟩) n n) (bZ (aB P M Mod) A p n c b)):=aD (by
       have h:=θ.si (by rw[fY];omega) (fun i=>by have X:=sX Bf O c i;rw[<-K.out] at X;exact I64.of_small (by omega) (by omega));rwa[fY] at h)
      have Bd:=zh (T9 (w:=wr) (u:=.slice (some ⟨gx,0,none⟩) n n) (t:=22));have Ao:=aF wr (.cells #[.slice (some ⟨gx,0,none⟩) n n] 22);have Bw:=zh (Bx.below Ao zr);have φ:=C.size;have Af:=zh (fM (w:=wr) (B:=F.heap.size) φ (.cells #[.slice (some ⟨gx,0,none⟩) n n] 22));have Ac:=zh ((D.names (Y:=fun _=>False) (fun g _ h=>h.elim)).alloc (.cells #[.slice (some ⟨gx,0,none⟩) n n] 22));have Bc:=zh (C.alloc φ (.cells #[.slice (some ⟨gx,0,none⟩) n n] 22));have Bl:=zh (tH (aB P M Mod) A p n c);clear Ao Cd I φ f;go_wp2_with (at_builtin;refine jM rfl _ _ rfl F.heap.size (fun _=>False) _ (bQ (aB P M Mod) A p n c) rfl Ac wr.heap.size 1 _ (bZ (aB P M Mod) A p n c b) rfl Bd Bw (fun _ g hg=>⟨fun e=>o.out _ e (by simp[Value.ownBlock] at hg;exact hg.symm),fun h=>h⟩) (by have:=Bl.out;omega) Af ?_;(intro Ds Av d Ap Ck);go_must (have Az:=zh (Ac.bgrown Bc Af Ap);rw[<-T.out] at d;obtain⟨Ax,Ca,rfl⟩:=d.form;have Bn:=zh d);clear d Ap Ck)
      exact⟨⟨c+1,_,Ax,Ca,by omega,by push_cast;rfl,rfl,rfl,Bn,Az⟩,by simp only[intOf];omega⟩
   .have δ:Hid ((p.any fun x=>x==(c:Int))=true):=hpv;have T:Hid (bQ (aB P M Mod) A p n (c+1)=bQ (aB P M Mod) A p n c):=aD (by show _=_;rw[bQ,if_pos hpv]);clear hpv;go_wp2_with fail;refine(cQ _ _ p (c:Int) (z.below C zr)).mono ?_;rintro e Cr ⟨rfl,rfl⟩;rw[δ.out];go_wp2_with fail;exact⟨⟨c+1,l,H,J,by omega,by push_cast;rfl,rfl,by rw[T.out];exact Bk,by rw[T.out];exact D,C⟩,by simp only[intOf];omega⟩
  .obtain rfl:c=n:=by omega
   have Dg:=tH (aB P M Mod) A p c c;have Bv:=zh (D.ss (by omega));have ζ:=zh (ε.on C);have Bh:=zh (Ab.on C);go_wp2_with fail;refine(tD wr a P M c Mod _ _ Bh Bv Bm (by omega) (by omega)).mono ?_;rintro e Av ⟨ψ,Cw,Dq,rfl,σ,_,An⟩;rw[<-Bj.out] at σ|-;generalize hkk:(cA (aB P M Mod) rows c).length=k at*;have Cv:=zh hkk;clear hkk;have Bu:=zh (σ.imp fun _ h=>h.1);have De:=ζ.q.lt;have N:=zh (ζ.on An);clear σ An d0;have d0:=N.fm.d0;obtain⟨Dk,Dl,Cy,Cz⟩:=N.q.two;go_wp2_with fail;obtain⟨Aw,Cb,S⟩:=oD (x:=.int .i64 (c:Int)) (y:=.slice ψ k k) N.q;rw[Cb];have Co:=S.c0;have Cp:=S.c1;refine bodyPost_ret (v:=.tuple #[.agg #[.int .i64 (c:Int),.slice ψ k k],.int .i64 0]) (by simp[results,Tryz.results93,go_sem,Co,Cp]) rfl ?_;exact⟨_,rfl,(Bu.grown S.gr (by rintro g e;cases e;omega)).mono ζ.fm.fb.bel.size,S.below N.fm.fb.bel N.fm.fb.bel.size (by omega)⟩
def lfM(L:Nat)(J:LL):LL:=J.map (List.take L)
def rgM(L:Nat)(J:LL):LL:=J.map (List.drop L)
theorem tC(L:Nat)(J:LL):(lfM L J).length=J.length:=by simp[lfM]
theorem pL(L:Nat)(J:LL):(rgM L J).length=J.length:=by simp[rgM]
theorem uR(L:Nat)(J:LL)(k:Nat):(lfM L J).getD k []=(J.getD k []).take L:=by unfold lfM;rw[aZ4,List.getElem?_map,aZ4];cases J[k]?<;>simp
theorem sP(L:Nat)(J:LL)(k:Nat):(rgM L J).getD k []=(J.getD k []).drop L:=by unfold rgM;rw[aZ4,List.getElem?_map,aZ4];cases J[k]?<;>simp
theorem EA(L:Nat)(J:LL)(i:Nat)(r:LI):lfM L (J.set i r)=(lfM L J).set i (r.take L):=by simp[lfM,List.map_set]
theorem ES(L:Nat)(J:LL)(i:Nat)(r:LI):rgM L (J.set i r)=(rgM L J).set i (r.drop L):=by simp[rgM,List.map_set]
theorem U9(L:Nat)(J:LL)(a k:Nat):lfM L (cF J a k)=cF (lfM L J) a k:=by unfold cF;rw[EA,EA,uR,uR]
theorem VT(L:Nat)(J:LL)(a k:Nat):rgM L (cF J a k)=cF (rgM L J) a k:=by unfold cF;rw[ES,ES,sP,sP]
theorem lV(r:LI)(L:Nat){c:Nat}(h:c<L):(r.take L).getD c 0=r.getD c 0:=by simp[List.getD,List.getElem?_take,h]
theorem iM(r:LI)(L c:Nat):(r.drop L).getD c 0=r.getD (L+c) 0:=by simp[List.getD,List.getElem?_drop]
theorem H7(O:aO)(z:Int)(r:LI)(L:Nat):(bR O z r).take L=bR O z (r.take L):=by refine List.ext_getElem (by simp[gI]) fun i A B=>?_;rw[aY3,gI] at A;simp only[bR,aQ,List.getElem_take,List.getElem_map,List.getElem_range];rw[lV _ _ (by omega)]
theorem H5(O:aO)(z:Int)(r:LI)(L:Nat):(bR O z r).drop L=bR O z (r.drop L):=by refine List.ext_getElem (by simp[gI]) fun i A B=>?_;simp only[bR,aQ,List.getElem_drop,List.getElem_map,List.getElem_range];rw[iM]
theorem E5(O:aO)(v:LI)(z:Int)(u:LI)(L:Nat):(cH O v z u).take L=cH O (v.take L) z (u.take L):=by refine List.ext_getElem (by simp[iK]) fun i A B=>?_;rw[aY3,iK] at A;simp only[cH,aQ,List.getElem_take,List.getElem_map,List.getElem_range];rw[lV _ _ (by omega),lV _ _ (by omega)]
theorem E4(O:aO)(v:LI)(z:Int)(u:LI)(L:Nat):(cH O v z u).drop L=cH O (v.drop L) z (u.drop L):=by refine List.ext_getElem (by simp[iK]) fun i A B=>?_;simp only[cH,aQ,List.getElem_drop,List.getElem_map,List.getElem_range];rw[iM,iM]
def IS(v:Value)(us:Nat->Value)(n:Nat)(g:Nat):Prop:=v.ownBlock=some g\/∃i,i<n/\(us i).ownBlock=some g
theorem nI.keep{B:Nat}{X:Nat->Prop}{w w':World}{v:Value}{us:Nat->Value}{l:LL}(h:nI B X w v us l)(C:∀g,IS v us l.length g->w'.heap[g]?=w.heap[g]?):nI B X w' v us l:=by
 obtain⟨D,E,hi,I⟩:=h;refine⟨⟨D.1,?_⟩,fun i A=>⟨(E i A).1.keep fun g hg=>C g (.inr ⟨i,A,hg⟩),(E i A).2⟩,hi,I⟩;rcases D.2 with hn|⟨g,F,G,rfl,hb,H,rest⟩
 .exact .inl hn
 .exact .inr ⟨g,F,G,rfl,hb,(C g (.inl rfl)).trans H,rest⟩
theorem nI.xs{B:Nat}{X Y:Nat->Prop}{w:World}{v:Value}{us:Nat->Value}{l:LL}(h:nI B X w v us l)(D:∀g,IS v us l.length g->Y g->X g):nI B Y w v us l:=by obtain⟨E,C,hi,F⟩:=h;exact⟨E,fun i A=>⟨(C i A).1,fun g hg=>⟨((C i A).2 g hg).1,fun h=>((C i A).2 g hg).2 (D g (.inr ⟨i,A,hg⟩) h)⟩⟩,hi,fun g hg h=>F g hg (D g (.inl hg) h)⟩
theorem nI.nx{B:Nat}{X:Nat->Prop}{w:World}{v:Value}{us:Nat->Value}{l:LL}(h:nI B X w v us l){g:Nat}(hg:IS v us l.length g):¬X g:=by
 obtain⟨D,A,hi,C⟩:=h;rcases hg with hg|⟨i,hi,hg⟩
 .exact C g hg
 .exact((A i hi).2 g hg).2
theorem nI.lt{B:Nat}{X:Nat->Prop}{w:World}{v:Value}{us:Nat->Value}{l:LL}(h:nI B X w v us l){g:Nat}(hg:IS v us l.length g):B<=g/\g<w.heap.size:=by
 obtain⟨A,C,hi,D⟩:=h;rcases hg with hg|⟨i,hi,hg⟩
 .exact World.ownsRow.lt A g hg
 .exact(C i hi).1.lt hg
def jN(B:Nat)(X:Nat->Prop)(w:World)(v:Value)(l:LL)(y:Value)(t:LL):Prop:=
 ∃us A,nI B (fun g=>X g\/IS y A t.length g) w v us l/\nI B (fun g=>X g\/IS v us l.length g) w y A t
section
variable {B:Nat} {X:Nat->Prop} {w w':World} {v y:Value} {l l' t:LL}
theorem jN.symm(h:jN B X w v l y t):jN B X w y t v l:=by obtain⟨us,D,A,C⟩:=h;exact⟨D,us,C,A⟩
theorem jN.om(h:jN B X w v l y t):OM B X w v l:=by obtain⟨us,C,A,_⟩:=h;exact⟨us,A.xs fun g _ h=>.inl h⟩
theorem jN.on(h:jN B X w v l y t)(hb:Below w.heap.size w w'):jN B X w' v l y t:=by obtain⟨us,D,A,C⟩:=h;exact⟨us,D,A.keep fun g hg=>hb.block g (A.lt hg).2,C.keep fun g hg=>hb.block g (C.lt hg).2⟩
theorem jN.grown(h:jN B X w v l y t){row:Option Nat}(hg:w.grownBy w' row)(A:∀g,row=some g->X g):jN B X w' v l y t:=by obtain⟨us,E,C,D⟩:=h;exact⟨us,E,C.grown hg fun g e=>.inl (A g e),D.grown hg fun g e=>.inl (A g e)⟩
theorem jN.names{Y:Nat->Prop}(h:jN B X w v l y t)(D:∀g,g<w.heap.size->Y g->X g):jN B Y w v l y t:=by obtain⟨us,E,A,C⟩:=h;exact⟨us,E,A.xs fun g hg h=>h.elim (fun h=>.inl (D g (A.lt hg).2 h)) .inr,C.xs fun g hg h=>h.elim (fun h=>.inl (D g (C.lt hg).2 h)) .inr⟩
theorem jN.split(h:jN B X w v l y t):∃A:Nat->Prop,OM B A w v l/\(∀g,X g->A g)/\(∀g,A g->X g\/(B<=g/\g<w.heap.size))/\∀w' l',OM B A w' v l'->KX B A w w'->jN B X w' v l' y t:=by obtain⟨us,E,F,D⟩:=h;refine⟨fun g=>X g\/IS y E t.length g,⟨us,F⟩,fun g hg=>.inl hg,fun g hg=>hg.elim .inl fun h=>.inr (D.lt h),fun w' l' C G=>?_⟩;obtain⟨I,C⟩:=C;refine⟨I,E,C,(D.keep fun g hg=>G.box g (.inr hg) (D.lt hg).2).xs fun g hg H=>H.elim .inl fun hb=>absurd (.inr hg) (C.nx hb)⟩
end
def PX(B:Nat)(X:Nat->Prop)(w:World)(v:Value)(l':LL)(y:Value)(A:LL)(e:Ending)(w':World):Prop:=e=.returned (.tuple #[])/\jN B X w' v l' y A/\KX B X w w'
section
variable {w:World} {B g n c gy cy g4 g5 g7 gk ga gi gx a k i A:Nat} {X:Nat->Prop} {l t:LL}
theorem M3(s:w.cell? ⟨g5,0,none⟩=some (.slice (some ⟨g,0,none⟩) n c))(r:w.cell? ⟨g7,0,none⟩=some (.slice (some ⟨gy,0,none⟩) n cy))(x7:X g7)(v:0<n)
  (O:jN B X w (.slice (some ⟨g,0,none⟩) n c) l (.slice (some ⟨gy,0,none⟩) n cy) t)(hn:l.length=n)(R:t.length=n)(M:a<n)(N:k<n)(J:a≠k)(L:X gk)(K:X ga)
  (H:w.cell? ⟨gk,0,none⟩=some (.int .i64 (k:Int)))(G:w.cell? ⟨ga,0,none⟩=some (.int .i64 (a:Int)))(hB:B<=w.heap.size):
  Calls Tryz.prog 168 #[.func (.func 169) #[] #[.pointer (some ⟨gk,0,none⟩),.pointer (some ⟨ga,0,none⟩)],.pointer (some ⟨g5,0,none⟩),.pointer (some ⟨g7,0,none⟩)] w (PX B X w (.slice (some ⟨g,0,none⟩) n c) (cF l a k) (.slice (some ⟨gy,0,none⟩) n cy) (cF t a k)):=by
 obtain⟨p,P,D,_,S⟩:=O.split;have Y:=zh (wD w B g n c gk ga a k p l P hn M N J (D _ L) (D _ K) H G hB);have i:=zh S;have F:=zh D;have f:=zh J;have h:=zh R;have W:=zh H;have V:=zh G;have U:=zh hB;clear O H G J hn R S P;go_enter Tryz.func168,Tryz.ntmps168;go_wp2_with fail;refine Y.mono ?_;rintro e w1 ⟨rfl,C,A⟩;have u:=A.cell r (F _ x7);obtain⟨q,Q,E,_,T⟩:=(i _ _ C A).symm.split;have Z:=zh (wD w1 B gy n cy gk ga a k q t Q h M N f (E _ L) (E _ K) (A.cell W (F _ L)) (A.cell V (F _ K)) (aZ6 U A.size));have j:=zh T;have b:=zh (A.less D);have o:=zh E;clear C A Q T D E;go_wp2_with fail;refine Z.mono ?_;rintro e w2 ⟨rfl,C,I⟩;have m:=zh (j _ _ C I).symm;have d:=zh (b.trans (I.less o));clear C I;go_wp2_with fail;refine bodyPost_end (results_none rfl _ _ _) rfl ?_;exact⟨rfl,m.out,d.out⟩
theorem M5{D:World}{P M z:Int}{Mod:LI}(φ:w.cell? ⟨g5,0,none⟩=some (.slice (some ⟨g,0,none⟩) n c))(ρ:w.cell? ⟨g7,0,none⟩=some (.slice (some ⟨gy,0,none⟩) n cy))(x7:X g7)(ψ:0<n)
  (K:GF D A P M Mod)(L:Below D.heap.size D w)(J:D.heap.size<=B)
  (U:jN B X w (.slice (some ⟨g,0,none⟩) n c) l (.slice (some ⟨gy,0,none⟩) n cy) t)(hn:l.length=n)(b:t.length=n)(R:a<n)(N:∀g,X g->g<w.heap.size)
  (Y:(l.getD a []).length<=100000)(i:∀k,I64 ((l.getD a []).getD k 0))(Z:(t.getD a []).length<=100000)(j:∀k,I64 ((t.getD a []).getD k 0))(x4:X g4)(τ:X gi)(σ:X ga)
  (G:w.cell? ⟨g4,0,none⟩=some (.pointer (some ⟨A,0,none⟩)))(I:w.cell? ⟨gi,0,none⟩=some (.int .i64 z))(H:w.cell? ⟨ga,0,none⟩=some (.int .i64 (a:Int)))(hB:B<=w.heap.size):
  Calls Tryz.prog 168 #[.func (.func 171) #[] #[.pointer (some ⟨g4,0,none⟩),.pointer (some ⟨gi,0,none⟩),.pointer (some ⟨ga,0,none⟩)],.pointer (some ⟨g5,0,none⟩),.pointer (some ⟨g7,0,none⟩)] w
   (PX B X w (.slice (some ⟨g,0,none⟩) n c) (l.set a (bR (aB P M Mod) z (l.getD a []))) (.slice (some ⟨gy,0,none⟩) n cy) (t.set a (bR (aB P M Mod) z (t.getD a [])))):=by
 obtain⟨ξ,V,Q,S,d⟩:=U.split;have v:=zh (zS D w B A g n c g4 gi ga a P M z Mod ξ l K L J V hn R (fun g h=>(S g h).elim (N g) (fun h=>h.2)) Y i G I H hB);have η:=zh d;have F:=zh Q;have ζ:=zh b;have p:=zh G;have r:=zh I;have q:=zh H;have o:=zh hB;have s:=zh K;have u:=zh L;have ε:=zh Z;have ι:=zh j;have ν:=zh N;clear U G I H hn b d V K L N Y i Z j S;go_enter Tryz.func168,Tryz.ntmps168;go_wp2_with fail;refine v.mono ?_;rintro e w1 ⟨rfl,E,C⟩;have χ:=C.cell ρ (F _ x7);obtain⟨π,W,m,T,f⟩:=(η _ _ E C).symm.split;have x:=zh (zS D w1 B A gy n cy g4 gi ga a P M z Mod π t s (u.trans (C.bel.mono J)) J W ζ R (fun g h=>(T g h).elim (fun h=>aY1 (ν.out g h) C.size) (fun h=>h.2)) ε ι (C.cell p (F _ x4)) (C.cell r (F _ τ)) (C.cell q (F _ σ)) (aZ6 o C.size));have θ:=zh f;have y:=zh (C.less Q);have μ:=zh m;clear E C W f Q m T;go_wp2_with fail;refine x.mono ?_;rintro e w2 ⟨rfl,E,O⟩;have κ:=zh (θ _ _ E O).symm;have δ:=zh (y.trans (O.less μ));clear E O;go_wp2_with fail;refine bodyPost_end (results_none rfl _ _ _) rfl ?_;exact⟨rfl,κ.out,δ.out⟩
theorem M7{F:World}{L L2:Nat}{P M x:Int}{Mod:LI}(Ac:w.cell? ⟨g5,0,none⟩=some (.slice (some ⟨g,0,none⟩) n c))(τ:w.cell? ⟨g7,0,none⟩=some (.slice (some ⟨gy,0,none⟩) n cy))(x7:X g7)(Ae:0<n)
  (Q:GF F A P M Mod)(R:Below F.heap.size F w)(O:F.heap.size<=B)
  (d:jN B X w (.slice (some ⟨g,0,none⟩) n c) l (.slice (some ⟨gy,0,none⟩) n cy) t)(hn:l.length=n)(m:t.length=n)(hi:i<n)(b:a<n)(T:i≠a)
  (Y:∀j,j<n->(l.getD j []).length=L/\∀k,I64 ((l.getD j []).getD k 0))(φ:0<L)(χ:L<=100000)
  (Z:∀j,j<n->(t.getD j []).length=L2/\∀k,I64 ((t.getD j []).getD k 0))(ψ:0<L2)(ω:L2<=100000)(x4:X g4)(V:X gi)(W:X gx)(U:X ga)
  (I:w.cell? ⟨g4,0,none⟩=some (.pointer (some ⟨A,0,none⟩)))(K:w.cell? ⟨gi,0,none⟩=some (.int .i64 (i:Int)))(N:w.cell? ⟨gx,0,none⟩=some (.int .i64 x))(J:w.cell? ⟨ga,0,none⟩=some (.int .i64 (a:Int)))(hB:B<=w.heap.size):
  Calls Tryz.prog 168 #[.func (.func 173) #[] #[.pointer (some ⟨g4,0,none⟩),.pointer (some ⟨gi,0,none⟩),.pointer (some ⟨gx,0,none⟩),.pointer (some ⟨ga,0,none⟩)],.pointer (some ⟨g5,0,none⟩),.pointer (some ⟨g7,0,none⟩)] w
   (PX B X w (.slice (some ⟨g,0,none⟩) n c) (l.set i (cH (aB P M Mod) (l.getD i []) (fZ P M x) (l.getD a []))) (.slice (some ⟨gy,0,none⟩) n cy) (t.set i (cH (aB P M Mod) (t.getD i []) (fZ P M x) (t.getD a [])))):=by
 obtain⟨ρ,f,D,Aa,o⟩:=d.split;have δ:=zh (zO F w B A g n c L g4 gi gx ga i a P M x Mod ρ l Q R O f hn hi b T Y φ χ (D _ x4) (D _ V) (D _ W) (D _ U) I K N J hB);have μ:=zh o;have G:=zh D;have κ:=zh m;have r:=zh I;have u:=zh K;have v:=zh N;have s:=zh J;have q:=zh hB;have y:=zh Q;have z:=zh R;have θ:=zh Z;have ι:=zh T;clear d I K N J hn m o f Q R Y Z Aa T;go_enter Tryz.func168,Tryz.ntmps168;go_wp2_with fail;refine δ.mono ?_;rintro e w1 ⟨rfl,H,C⟩;have Ad:=C.cell τ (G _ x7);obtain⟨σ,h,E,Ab,p⟩:=(μ _ _ H C).symm.split;have ε:=zh (zO F w1 B A gy n cy L2 g4 gi gx ga i a P M x Mod σ t y (z.trans (C.bel.mono O)) O h κ hi b ι θ ψ ω (E _ x4) (E _ V) (E _ W) (E _ U) (C.cell r (G _ x4)) (C.cell u (G _ V)) (C.cell v (G _ W)) (C.cell s (G _ U)) (aZ6 q C.size));have ν:=zh p;have ζ:=zh (C.less D);have π:=zh E;clear H C h p D E Ab;go_wp2_with fail;refine ε.mono ?_;rintro e w2 ⟨rfl,H,S⟩;have ξ:=zh (ν _ _ H S).symm;have η:=zh (ζ.trans (S.less π));clear H S;go_wp2_with fail;refine bodyPost_end (results_none rfl _ _ _) rfl ?_;exact⟨rfl,ξ.out,η.out⟩
end
structure EJ(L:Nat)(w0 wr:World)(v av u:Value)(J:LL)(piv:LI)(X:Nat->Prop)(A b4 b5 b7:Nat):Prop where
 om:jN w0.heap.size X wr v (lfM L J) av (rgM L J)
 xb:∀g,X g->g<wr.heap.size
 oi:OI w0.heap.size wr u piv
 xu:∀g,u.ownBlock=some g->X g
 nu:∀g,u.ownBlock=some g->g≠b4/\g≠b5/\g≠b7
 bel:Below w0.heap.size w0 wr
 x4:X b4
 x5:X b5
 x7:X b7
 k4:Blk wr b4 87 [.pointer (some ⟨A,0,none⟩)]
 k5:Blk wr b5 25 [v]
 k7:Blk wr b7 25 [av]
section
variable {L:Nat} {w0 wr w1:World} {v av u:Value} {l l':LL} {piv:LI} {X:Nat->Prop} {A b4 b5 b7:Nat}
theorem EJ.on(h:EJ L w0 wr v av u l piv X A b4 b5 b7)(hb:Below wr.heap.size wr w1):EJ L w0 w1 v av u l piv X A b4 b5 b7:=
 ⟨h.om.on hb,fun g hg=>aY1 (h.xb g hg) hb.size,h.oi.below hb zr,h.xu,h.nu,h.bel.trans (hb.mono h.bel.size),h.x4,h.x5,h.x7,h.k4.belowS hb,h.k5.belowS hb,h.k7.belowS hb⟩
theorem EJ.kx(h:EJ L w0 wr v av u l piv X A b4 b5 b7)(C:jN w0.heap.size X w1 v (lfM L l') av (rgM L l'))(B:KX w0.heap.size X wr w1):EJ L w0 w1 v av u l' piv X A b4 b5 b7:=
 ⟨C,fun g hg=>aY1 (h.xb g hg) B.size,B.oi h.oi h.xu,h.xu,h.nu,h.bel.trans B.bel,h.x4,h.x5,h.x7,B.blk h.k4 h.x4,B.blk h.k5 h.x5,B.blk h.k7 h.x7⟩
theorem EJ.box(h:EJ L w0 wr v av u l piv X A b4 b5 b7)(o:Obj):EJ L w0 (wr.alloc o) v av u l piv (fun g=>X g\/g=wr.heap.size) A b4 b5 b7:=by
 have B:=h.on (aF wr o);refine⟨(h.om.names (fun g C hg=>hg.resolve_right (by omega))).on (aF wr o),fun g hg=>?_,B.oi,fun g hg=>.inl (h.xu g hg),h.nu,B.bel,.inl h.x4,.inl h.x5,.inl h.x7,B.k4,B.k5,B.k7⟩;rw[World.size_alloc];rcases hg with hg|hg
 .have:=h.xb g hg;omega
 .omega
theorem EJ.name(h:EJ L w0 wr v av u l piv X A b4 b5 b7)(hb:Below wr.heap.size wr w1){gi:Nat}(C:wr.heap.size<=gi)(E:gi<w1.heap.size):EJ L w0 w1 v av u l piv (fun g=>X g\/g=gi) A b4 b5 b7:=by
 have B:=h.on hb;refine⟨(h.om.names (Y:=fun g=>X g\/g=gi) (fun g D hg=>hg.resolve_right (by omega))).on hb,fun g hg=>?_,B.oi,fun g hg=>.inl (h.xu g hg),h.nu,B.bel,.inl h.x4,.inl h.x5,.inl h.x7,B.k4,B.k5,B.k7⟩;rcases hg with hg|hg
 .exact B.xb g hg
 .omega
theorem EJ.set(h:EJ L w0 wr v av u l piv X A b4 b5 b7){b i:Nat}(F:X b)(hB:w0.heap.size<=b)(E:∀g,u.ownBlock=some g->g≠b)(B:b4≠b)(C:b5≠b)(D:b7≠b)(y:Value):EJ L w0 (wr.setCell ⟨b,i,none⟩ y) v av u l piv X A b4 b5 b7:=
 ⟨h.om.grown (bF wr b i y) (fun g hg=>by cases hg;exact F),fun g hg=>by have:=h.xb g hg;simpa[World.setCell] using this,
  h.oi.grown (bF wr b i y) (fun g hg e=>E g hg (aZ0 e).symm),h.xu,h.nu,h.bel.setCell (p:=⟨b,i,none⟩) hB y,h.x4,h.x5,h.x7,h.k4.far (p:=⟨b,i,none⟩) B y,h.k5.far (p:=⟨b,i,none⟩) C y,h.k7.far (p:=⟨b,i,none⟩) D y⟩
theorem EJ.push{v':Value}{y:Int}{o:Obj}(h:EJ L w0 wr v av u l piv X A b4 b5 b7)(H:OI w0.heap.size w1 v' (piv++[y]))(hg:(wr.alloc o).grownBy w1 u.ownBlock)
  (C:v'.ownBlock=u.ownBlock\/v'.ownBlock=some (wr.alloc o).heap.size):EJ L w0 w1 v av v' l (piv++[y]) (fun g=>X g\/v'.ownBlock=some g) A b4 b5 b7:=by
 have E:=h.on (aF wr o);have G:∀b,(b=b4\/b=b5\/b=b7)->some b≠u.ownBlock:=fun b hb e=>by have:=h.nu b e.symm;omega
 have F:∀b,X b->b<(wr.alloc o).heap.size:=E.xb;refine⟨?_,fun g D=>?_,H,fun g D=>.inr D,fun g D=>?_,E.bel.grown hg E.bel.size (fun k J=>(h.oi.lt J).1),.inl h.x4,.inl h.x5,.inl h.x7,E.k4.grown hg (G b4 (.inl rfl)),E.k5.grown hg (G b5 (.inr (.inl rfl))),E.k7.grown hg (G b7 (.inr (.inr rfl)))⟩
 .refine(E.om.names (Y:=fun g=>X g\/v'.ownBlock=some g) (fun g K B=>?_)).grown hg (fun I D=>.inl (h.xu I D));rcases B with B|B
  .exact B
  .rcases C with C|C
   .exact h.xu g (by rw[<-C];exact B)
   .rw[C] at B;have:=aZ0 B;omega
 .rcases D with B|B
  .exact aY1 (F g B) hg.size
  .exact(H.lt B).2
 .rcases C with C|C
  .exact h.nu g (by rw[<-C];exact D)
  .rw[C] at D;have e:=aZ0 D;have:=F _ h.x4;have:=F _ h.x5;have:=F _ h.x7;omega
theorem EJ.row{g n c:Nat}(h:EJ L w0 wr (.slice (some ⟨g,0,none⟩) n c) av u l piv X A b4 b5 b7){k:Nat}(F:k<l.length){N:Nat}(J:(l.getD k []).length=N)(H:L<=N)(I:0<L):
  ∃q C,wr.cell? ⟨g,k,none⟩=some (.slice (some ⟨q,0,none⟩) L C)/\∀j,j<L->wr.cell? ⟨q,j,none⟩=some (.int .i64 ((l.getD k []).getD j 0)):=by
 obtain⟨K,D,B,_⟩:=h.om.om.row (k:=k) (by rw[tC];exact F);rw[uR] at B;have G:((l.getD k []).take L).length=L:=by rw[aY3];omega
 obtain⟨q,C,rfl,_,_⟩:=B.form (by omega);refine⟨q,C,by rw[G] at D;exact D,fun j E=>?_⟩;have:=B.cell j (by omega);rwa[lV _ _ E] at this
end
end Go.Proofs.YtpfhoemohibniaaGreatDoor
