/- Texts of a claim, merged. -/
import Derived.Test.YtpfhoemohibniaaGreatDoorZA29
set_option maxRecDepth 100000
set_option maxHeartbeats 32000000
namespace Go.Proofs.YtpfhoemohibniaaGreatDoor
open Go.RowKit
theorem I5(w:World)(P M:Int)(mv:Value)(Mod:LI)(h:SI w mv Mod):
  Calls Tryz.prog 42 #[.agg #[.int .i64 P,.int .i64 M,mv]] w (iJ w (cN P M Mod)):=by
 have R:=zh h;clear h;have C:=zh (cV.mk' w P M mv);have J:=zh (fun(w':World) (hb:Below w.heap.size w w')=>sB w' P M mv Mod (R.below hb zr));by_cases F:lW P M Mod
 case neg=>
  have N:Hid (fC P M Mod=false):=fD F;have I:Hid (cN P M Mod=1):=dZ fun h=>F ⟨h.1,h.2.1,h.2.2.1⟩;rw[N.out] at J;clear F;go_enter Tryz.func42,Tryz.ntmps42;go_upto_region 1 with fail;generalize w.alloc (.cells #[.int .i64 P,.int .i64 M,mv] 24)=w0 at*;have c0:=C.c0;have c1:=C.c1;have c2:=C.c2;refine aG.start (S:=fun w'=>w'.cell? ⟨w.heap.size,0,none⟩=some (.int .i64 P)/\w'.cell? ⟨w.heap.size,1,none⟩=some (.int .i64 M)/\w'.cell? ⟨w.heap.size,2,none⟩=some mv) (by kernel_rfl) (⟨c0,c1,c2⟩) (fun A=>?_);change aG _ _ _ _ 13 _ _ _;refine tq 0 ?_;try simp only[tz]
  refine aG.only (i:=1) (by kernel_rfl) rfl (fun K hK=>?_);go_simp;refine(J _ (aA C.bel (aH w0))).mono ?_;rintro e w1 ⟨rfl,G⟩;have B:=zh (C.on (aA (aH w0) G));clear G;refine hK.out _ _ (⟨B.c0,B.c1,B.c2⟩) ?_;clear hK K A;intro A;try simp only[tz]
  refine tq 2 ?_;refine tq 3 ?_;try simp only[tz]
  refine aG.take (i:=4) (v:=undef) rfl (by kernel_rfl) (by kernel_rfl) (by kernel_rfl) (fun _ _ _ h=>h) (Or.inr ⟨by kernel_rfl,rfl⟩) A ?_;try simp only[tz]
  refine aG.take (i:=5) (v:=undef) rfl (by kernel_rfl) (by kernel_rfl) (by kernel_rfl) (fun _ _ _ h=>h) (Or.inr ⟨by kernel_rfl,rfl⟩) A ?_;try simp only[tz]
  refine aG.take (i:=6) (v:=undef) rfl (by kernel_rfl) (by kernel_rfl) (by kernel_rfl) (fun _ _ _ h=>h) (Or.inr ⟨by kernel_rfl,rfl⟩) A ?_;try simp only[tz]
  refine aG.take (i:=7) (v:=undef) rfl (by kernel_rfl) (by kernel_rfl) (by kernel_rfl) (fun _ _ _ h=>h) (Or.inr ⟨by kernel_rfl,rfl⟩) A ?_;try simp only[tz]
  refine aG.take (i:=8) (v:=undef) rfl (by kernel_rfl) (by kernel_rfl) (by kernel_rfl) (fun _ _ _ h=>h) (Or.inr ⟨by kernel_rfl,rfl⟩) A ?_;try simp only[tz]
  refine aG.only (i:=9) (by kernel_rfl) rfl (fun K hK=>?_);go_simp;refine hK.out _ _ A (fun E=>?_);clear hK K;clear E;try simp only[tz]
  refine aG.only (i:=10) (by kernel_rfl) rfl (fun K hK=>?_);go_simp;refine hK.out _ _ A (fun E=>?_);clear hK K;clear E;try simp only[tz]
  refine aG.take (i:=11) (v:=undef) rfl (by kernel_rfl) (by kernel_rfl) (by kernel_rfl) (fun _ _ _ h=>h) (Or.inr ⟨by kernel_rfl,rfl⟩) A ?_;try simp only[tz]
  refine aG.only (i:=12) (by kernel_rfl) rfl (fun K hK=>?_);go_simp;refine hK.out _ _ A (fun E=>?_);clear hK K;clear E;refine aG.done (by kernel_rfl) ?_;try simp only[tz]
  clear A;clear c0 c1 c2;go_wp2_with fail;go_ret;exact⟨by rw[I.out];rfl,B.bel⟩
 have N:Hid (fC P M Mod=true):=kX F;rw[N.out] at J;have Q:=zh (fun(w':World) (hb:Below w.heap.size w w')=>nM w' P M mv Mod (R.below hb zr) F);by_cases H:cK P M Mod
 .have I:Hid (cN P M Mod=0):=jP H;obtain⟨x,a,Y,T⟩:=CD (dU H);have Z:=cG F.1;have W:Hid (0<(sZ (aB P M Mod) (aC P M)).length):=aD (by rw[T,aY7,List.length_range];omega);clear F H a Y T Z x;go_enter Tryz.func42,Tryz.ntmps42;go_upto_region 1 with fail;generalize w.alloc (.cells #[.int .i64 P,.int .i64 M,mv] 24)=w0 at*;have c0:=C.c0;have c1:=C.c1;have c2:=C.c2;refine aG.start (S:=fun w'=>w'.cell? ⟨w.heap.size,0,none⟩=some (.int .i64 P)/\w'.cell? ⟨w.heap.size,1,none⟩=some (.int .i64 M)/\w'.cell? ⟨w.heap.size,2,none⟩=some mv) (by kernel_rfl) (⟨c0,c1,c2⟩) (fun A=>?_);change aG _ _ _ _ 13 _ _ _;refine tq 0 ?_;try simp only[tz]
  refine aG.only (i:=1) (by kernel_rfl) rfl (fun K hK=>?_);go_simp;refine(J _ (aA C.bel (aH w0))).mono ?_;rintro e w1 ⟨rfl,G⟩;have B:=zh (C.on (aA (aH w0) G));clear G;refine hK.out _ _ (⟨B.c0,B.c1,B.c2⟩) ?_;clear hK K A;intro A;try simp only[tz]
  refine tq 2 ?_;refine tq 3 ?_;refine tq 4 ?_;refine tq 5 ?_;refine tq 6 ?_;refine tq 7 ?_;refine tq 8 ?_;try simp only[tz]
  refine aG.only (i:=9) (by kernel_rfl) rfl (fun K hK=>?_);go_simp;refine(fB _ _ _).mono ?_;rintro e w2 ⟨rfl,rfl⟩;refine hK.out _ _ (⟨B.c0,B.c1,B.c2⟩) ?_;clear hK K A;intro A;try simp only[tz]
  refine aG.only (i:=10) (by kernel_rfl) rfl (fun K hK=>?_);go_simp;refine(Q _ B.bel).mono ?_;rintro e b ⟨u,rfl,U,_,L⟩;obtain⟨X,d,rfl,_,_⟩:=U.form W.out;have D:=zh (B.on L);clear U L;have O:=fun(w:World) (l c:Nat)=>run_eql_slice_nil (P:=Tryz.prog) w 22 3 (some ⟨X,0,none⟩) l c Tryz.underlying22;refine hK.out _ _ (⟨D.c0,D.c1,D.c2⟩) ?_;clear hK K A;intro A;try simp only[tz]
  refine tq 11 ?_;try simp only[tz]
  refine aG.only (i:=12) (by kernel_rfl) rfl (fun K hK=>?_);go_simp;refine hK.out _ _ A (fun E=>?_);clear hK K;clear E;refine aG.done (by kernel_rfl) ?_;try simp only[tz]
  clear A;clear c0 c1 c2 O;go_wp2_with fail;go_ret;exact⟨by rw[I.out];rfl,D.bel⟩
 .have I:Hid (cN P M Mod=1):=dZ H;have V:Hid (sZ (aB P M Mod) (aC P M)=[]):=F0 F H;clear F H;go_enter Tryz.func42,Tryz.ntmps42;go_upto_region 1 with fail;generalize w.alloc (.cells #[.int .i64 P,.int .i64 M,mv] 24)=w0 at*;have c0:=C.c0;have c1:=C.c1;have c2:=C.c2;refine aG.start (S:=fun w'=>w'.cell? ⟨w.heap.size,0,none⟩=some (.int .i64 P)/\w'.cell? ⟨w.heap.size,1,none⟩=some (.int .i64 M)/\w'.cell? ⟨w.heap.size,2,none⟩=some mv) (by kernel_rfl) (⟨c0,c1,c2⟩) (fun A=>?_);change aG _ _ _ _ 13 _ _ _;refine tq 0 ?_;try simp only[tz]
  refine aG.only (i:=1) (by kernel_rfl) rfl (fun K hK=>?_);go_simp;refine(J _ (aA C.bel (aH w0))).mono ?_;rintro e w1 ⟨rfl,G⟩;have B:=zh (C.on (aA (aH w0) G));clear G;refine hK.out _ _ (⟨B.c0,B.c1,B.c2⟩) ?_;clear hK K A;intro A;try simp only[tz]
  refine tq 2 ?_;refine tq 3 ?_;refine tq 4 ?_;refine tq 5 ?_;refine tq 6 ?_;refine tq 7 ?_;refine tq 8 ?_;try simp only[tz]
  refine aG.only (i:=9) (by kernel_rfl) rfl (fun K hK=>?_);go_simp;refine(fB _ _ _).mono ?_;rintro e w2 ⟨rfl,rfl⟩;refine hK.out _ _ (⟨B.c0,B.c1,B.c2⟩) ?_;clear hK K A;intro A;try simp only[tz]
  refine aG.only (i:=10) (by kernel_rfl) rfl (fun K hK=>?_);go_simp;refine(Q _ B.bel).mono ?_;rintro e b ⟨u,rfl,_,hn,L⟩;obtain rfl:=hn V.out;have D:=zh (B.on L);clear hn L;have O:=fun(w:World) (l c:Nat)=>run_eql_slice_nil (P:=Tryz.prog) w 22 3 none l c Tryz.underlying22;refine hK.out _ _ (⟨D.c0,D.c1,D.c2⟩) ?_;clear hK K A;intro A;try simp only[tz]
  refine tq 11 ?_;try simp only[tz]
  refine aG.only (i:=12) (by kernel_rfl) rfl (fun K hK=>?_);go_simp;refine hK.out _ _ A (fun E=>?_);clear hK K;clear E;refine aG.done (by kernel_rfl) ?_;try simp only[tz]
  clear A;clear c0 c1 c2 O;go_wp2_with fail;go_ret;exact⟨by rw[I.out];rfl,D.bel⟩
def vX(n:Int):Int:=if 1<=n/\n<=64 then 0 else 4
theorem yR(w:World)(n:Int):Calls Tryz.prog 43 #[.int .i64 n] w (fun e w'=>e=.returned (.int .i64 (vX n))/\w=w'):=by
 by_cases B:n<1
 .have A:Hid (vX n=4):=by show _=_;unfold vX;rw[if_neg (by omega)]
  go_enter Tryz.func43,Tryz.ntmps43;go_wp2_with fail;go_ret;exact⟨by rw[A.out];rfl,rfl⟩
 .by_cases C:64<n
  .have A:Hid (vX n=4):=by show _=_;unfold vX;rw[if_neg (by omega)]
   go_enter Tryz.func43,Tryz.ntmps43;go_wp2_with fail;go_ret;exact⟨by rw[A.out];rfl,rfl⟩
  .have A:Hid (vX n=0):=by show _=_;unfold vX;rw[if_pos (by omega)]
   go_enter Tryz.func43,Tryz.ntmps43;go_wp2_with fail;go_ret;exact⟨by rw[A.out];rfl,rfl⟩
structure CMQ(w w1:World)(P M:Int)(mv:Value)(n:Int)(gv:Value):Prop where
 cb:dD w w1 P M mv n gv
 q:Blk w1 (w.heap.size+1) 86 [.int .i64 0,.slice none 0 0]
theorem CMQ.mk'(w:World)(P M:Int)(mv:Value)(n:Int)(gv:Value):∃w1,(w.alloc (.cells #[.int .i64 P,.int .i64 M,mv,.int .i64 n,gv] 27)).alloc (.cells #[.int .i64 0,.slice none 0 0] 86)=w1/\CMQ w w1 P M mv n gv:=by refine⟨_,rfl,(dD.mk' w P M mv n gv).on (aF _ _),?_⟩;have:=Blk.new (w.alloc (.cells #[.int .i64 P,.int .i64 M,mv,.int .i64 n,gv] 27)) 86 [.int .i64 0,.slice none 0 0];rw[World.size_alloc] at this;exact this
theorem yN(w:World)(P M n:Int)(mv:Value)(B:Option Addr)(D C:Nat):Calls Tryz.prog 45 #[.agg #[.int .i64 P,.int .i64 M,mv,.int .i64 n,.slice B D C]] w (fun e w'=>e=.returned (.agg #[.int .i64 n,.slice B D C])/\Below w.heap.size w w'):=by obtain⟨w1,G,hq⟩:=CMQ.mk' w P M mv n (.slice B D C);have A:=zh hq;have F:=zh G;clear hq G;go_enter Tryz.func45,Tryz.ntmps45;go_upto_region 1 with fail;rw[F.out];clear F;have c3:=A.cb.c3;have c4:=A.cb.c4;obtain⟨O,Q,K,L⟩:=A.q.two;go_wp2_with fail;obtain⟨N,H,E⟩:=oD (x:=.int .i64 n) (y:=(.slice B D C)) A.q;rw[H];have I:=E.c0;have J:=E.c1;refine bodyPost_ret (v:=.agg #[.int .i64 n,.slice B D C]) (by simp[results,Tryz.results45,go_sem,I,J]) rfl ?_;exact⟨rfl,E.below A.cb.bel A.cb.bel.size (by omega)⟩
theorem eO(w:World)(P M n:Int)(mv gv:Value)(Mod:LI)(gen:LL)(hm:SI w mv Mod)(hg:SS w gv gen):
  Calls Tryz.prog 17 #[.agg #[.int .i64 P,.int .i64 M,mv,.int .i64 n,gv]] w (iJ w (cS P M Mod n gen)):=by
 have N:=zh (fun(w':World) (hb:Below w.heap.size w w')=>I5 w' P M mv Mod (hm.below hb zr));have U:=zh (fun(w':World) (hb:Below w.heap.size w w')=>KB w' P M n mv gv Mod gen (hm.below hb zr) (hg.below hb zr));obtain⟨F,H,rfl,_⟩:=hg;generalize gen.length=I at*;have A:=zh (dD.mk' w P M mv n (.slice F I H));clear hm;by_cases D:cN P M Mod=0
 case neg=>
  have Q:cN P M Mod=1:=by unfold cN at D|-;split<;>simp_all
  have L:Hid (cS P M Mod n gen=1):=by show _=_;unfold cS;rw[if_pos D,Q]
  rw[Q] at N;clear D Q;go_enter Tryz.func17,Tryz.ntmps17;go_upto_region 1 with fail;generalize w.alloc (.cells #[.int .i64 P,.int .i64 M,mv,.int .i64 n,.slice F I H] 27)=w0 at*;have c0:=A.c0;have c1:=A.c1;have c2:=A.c2;go_wp2_with fail;refine(N.out w0 A.bel).mono ?_;rintro e w1 ⟨rfl,C⟩;have B:=zh (A.on C);clear C c0 c1 c2;go_wp2_with fail;go_ret;exact⟨by rw[L.out];rfl,B.bel⟩
 rw[D] at N;by_cases hn:1<=n/\n<=64
 .have L:Hid (cS P M Mod n gen=spaceE P M Mod n gen):=by show _=_;unfold cS;rw[if_neg (by simpa using D),if_pos hn]
  have O:Hid (vX n=0):=by show _=_;unfold vX;rw[if_pos hn]
  clear D hn;go_enter Tryz.func17,Tryz.ntmps17;go_upto_region 1 with fail;generalize w.alloc (.cells #[.int .i64 P,.int .i64 M,mv,.int .i64 n,.slice F I H] 27)=w0 at*;have c0:=A.c0;have c1:=A.c1;have c2:=A.c2;go_wp2_with fail;refine(N.out w0 A.bel).mono ?_;rintro e w1 ⟨rfl,C⟩;have B:=zh (A.on C);clear C c0 c1 c2;have c3:=B.c3;go_wp2_with fail;refine(yR _ n).mono ?_;rintro e w2 ⟨rfl,rfl⟩;rw[O.out];clear c3;have c0:=B.c0;have c1:=B.c1;have c2:=B.c2;have c3:=B.c3;have c4:=B.c4;go_upto_region 6 with fail;refine aG.start (S:=fun w'=>w'.cell? ⟨w.heap.size,0,none⟩=some (.int .i64 P)/\w'.cell? ⟨w.heap.size,1,none⟩=some (.int .i64 M)/\w'.cell? ⟨w.heap.size,2,none⟩=some mv/\w'.cell? ⟨w.heap.size,3,none⟩=some (.int .i64 n)/\w'.cell? ⟨w.heap.size,4,none⟩=some (.slice F I H)) (by kernel_rfl) (⟨c0,c1,c2,c3,c4⟩) (fun J=>?_);change aG _ _ _ _ 6 _ _ _;refine tq 0 ?_;refine tq 1 ?_;refine tq 2 ?_;try simp only[tz]
  refine aG.only (i:=3) (by kernel_rfl) rfl (fun K hK=>?_);go_simp;refine(yN _ P M n mv F I H).mono ?_;rintro e W ⟨rfl,R⟩;have E:=zh (B.on (aA (aH w1) R));clear R;refine hK.out _ _ (⟨E.c0,E.c1,E.c2,E.c3,E.c4⟩) ?_;clear hK K J;intro J;try simp only[tz]
  refine aG.only (i:=4) (by kernel_rfl) rfl (fun K hK=>?_);go_simp;refine(U.out W E.bel).mono ?_;rintro e X ⟨rfl,T⟩;have G:=zh (E.on T);clear T;refine hK.out _ _ (⟨G.c0,G.c1,G.c2,G.c3,G.c4⟩) ?_;clear hK K J;intro J;try simp only[tz]
  refine aG.only (i:=5) (by kernel_rfl) rfl (fun K hK=>?_);go_simp;refine hK.out _ _ J (fun V=>?_);clear hK K;clear V;refine aG.done (by kernel_rfl) ?_;try simp only[tz]
  clear J;clear c0 c1 c2 c3 c4;go_wp2_with fail;go_ret;exact⟨by rw[L.out];rfl,G.bel⟩
 .have L:Hid (cS P M Mod n gen=4):=by show _=_;unfold cS;rw[if_neg (by simpa using D),if_neg hn]
  have O:Hid (vX n=4):=by show _=_;unfold vX;rw[if_neg hn]
  clear D hn;go_enter Tryz.func17,Tryz.ntmps17;go_upto_region 1 with fail;generalize w.alloc (.cells #[.int .i64 P,.int .i64 M,mv,.int .i64 n,.slice F I H] 27)=w0 at*;have c0:=A.c0;have c1:=A.c1;have c2:=A.c2;go_wp2_with fail;refine(N.out w0 A.bel).mono ?_;rintro e w1 ⟨rfl,C⟩;have B:=zh (A.on C);clear C c0 c1 c2;have c3:=B.c3;go_wp2_with fail;refine(yR _ n).mono ?_;rintro e w2 ⟨rfl,rfl⟩;rw[O.out];go_wp2_with fail;go_ret;exact⟨by rw[L.out];rfl,B.bel⟩
theorem QO(w:World)(P M:Int)(mv:Value)(Mod:LI)(hm:SI w mv Mod):
  Calls Tryz.prog 275 #[.agg #[.int .i64 P,.int .i64 M,mv]] w (XL w P M Mod):=by
 have a:=zh hm;have T:=zh (fun(w':World) (hb:Below w.heap.size w w')=>iV w' mv Mod (hm.below hb zr));obtain⟨w1,Q,S,hq⟩:∃w1,(w.alloc (.cells #[.int .i64 P,.int .i64 M,mv] 24)).alloc (.cells #[.int .i64 0,.int .i64 0,.slice none 0 0] 24)=w1/\cV w w1 P M mv/\Blk w1 (w.heap.size+1) 24 [.int .i64 0,.int .i64 0,.slice none 0 0]:=by refine⟨_,rfl,(cV.mk' w P M mv).on (aF _ _),?_⟩;have:=Blk.new (w.alloc (.cells #[.int .i64 P,.int .i64 M,mv] 24)) 24 [.int .i64 0,.int .i64 0,.slice none 0 0];rw[World.size_alloc] at this;exact this
 have D:=zh S;have K:=zh hq;have J:=zh Q;clear hm S hq Q;go_enter Tryz.func275,Tryz.ntmps275;go_upto_region 1 with fail;rw[J.out];clear J;have c2:=D.c2;go_wp2_with fail;refine(T.out w1 D.bel).mono ?_;rintro e w2 ⟨u,rfl,H,F⟩;obtain⟨A,B,rfl⟩:=H.form';have N:=zh H;have E:=zh (D.on F);have V:=zh (K.belowS F);have f:=K.lt;clear H F c2;have c2:=E.c2;have R:=E.blk.frozen 2;go_upto_region 2 with fail;have G:=bF w2 w.heap.size 2 (.slice A Mod.length B);have U:Hid (Blk (w2.setCell ⟨w.heap.size,2,none⟩ (.slice A Mod.length B)) w.heap.size 24 [.int .i64 P,.int .i64 M,.slice A Mod.length B]):=aD (E.blk.set_ 2 (.slice A Mod.length B));have L:=zh (V.grown G (by intro e;have:=aZ0 e;omega));have O:=zh (N.grown G (fun g hg e=>by have:=(N.lt hg).1;have:=aZ0 e;omega));have I:=zh (E.bel.setCell (p:=⟨w.heap.size,2,none⟩) zr (.slice A Mod.length B));clear G c2 R;generalize w2.setCell ⟨w.heap.size,2,none⟩ (.slice A Mod.length B)=h at*;obtain⟨c0,c1,c2,_,_,_⟩:=U.three;obtain⟨j,k,l,b,c,R⟩:=L.three;go_wp2_with fail;obtain⟨i,W,C⟩:=xK (x:=.int .i64 P) (y:=.int .i64 M) (z:=.slice A Mod.length B) L.out;rw[W];have X:=C.c0;have Y:=C.c1;have Z:=C.c2;refine bodyPost_ret (v:=.agg #[.int .i64 P,.int .i64 M,.slice A Mod.length B]) (by simp[results,Tryz.results275,go_sem,X,Y,Z]) rfl ?_;refine⟨_,rfl,(O.grown C.gr (fun g hg e=>?_)).mono D.bel.size,C.below I I.size (by omega)⟩;have d:=(O.lt hg).1;cases e;omega
def PY(w:World)(P M:Int)(Mod:LI)(n:Int)(gv:Value)(e:Ending)(w':World):Prop:=
 ∃u,e=.returned (.tuple #[.agg #[.int .i64 P,.int .i64 M,u,.int .i64 n,gv],.int .i64 0])/\OI w.heap.size w' u Mod/\Below w.heap.size w w'
structure FMC(w w1:World)(P M:Int)(mv:Value)(cols:Int)(rv:Value):Prop where
 fm:fU w w1 P M mv cols rv
 q:Blk w1 (w.heap.size+1+1) 27 [.int .i64 0,.int .i64 0,.slice none 0 0,.int .i64 0,.slice none 0 0]
theorem FMC.on{w w1 w2:World}{P M:Int}{mv:Value}{A:Int}{B:Value}(h:FMC w w1 P M mv A B)(hb:Below w1.heap.size w1 w2):FMC w w2 P M mv A B:=⟨h.fm.on hb,h.q.belowS hb⟩
theorem FMC.mk'(w:World)(P M:Int)(mv:Value)(A:Int)(B:Value):∃w1,((w.alloc (.cells #[.int .i64 P,.int .i64 M,mv] 24)).alloc (.cells #[.int .i64 A,B] 86)).alloc (.cells #[.int .i64 0,.int .i64 0,.slice none 0 0,.int .i64 0,.slice none 0 0] 27)=w1/\
  FMC w w1 P M mv A B/\w1.heap.size=w.heap.size+1+1+1:=by
 refine⟨_,rfl,⟨(fU.mk' w P M mv A B).on (aF _ _),?_⟩,?_⟩
 .have:=Blk.new ((w.alloc (.cells #[.int .i64 P,.int .i64 M,mv] 24)).alloc (.cells #[.int .i64 A,B] 86)) 27 [.int .i64 0,.int .i64 0,.slice none 0 0,.int .i64 0,.slice none 0 0];rw[World.size_alloc,World.size_alloc] at this;exact this
 .rw[World.size_alloc,World.size_alloc,World.size_alloc]
theorem FMC.s5{w w1 w2:World}{P M A:Int}{mv B:Value}(h:FMC w w1 P M mv A B)(hg:w1.grownBy w2 (some (w.heap.size+1+1))):
  w2.cell? ⟨w.heap.size,0,none⟩=some (.int .i64 P)/\w2.cell? ⟨w.heap.size,1,none⟩=some (.int .i64 M)/\w2.cell? ⟨w.heap.size,2,none⟩=some mv/\w2.cell? ⟨w.heap.size+1,0,none⟩=some (.int .i64 A)/\w2.cell? ⟨w.heap.size+1,1,none⟩=some B:=by
 have b:=h.fm.fb.blk.grown hg (by intro e;have:=aZ0 e;omega);have m:=h.fm.mb.grown hg (by intro e;have:=aZ0 e;omega);exact⟨b.cell 0,b.cell 1,b.cell 2,m.cell 0,m.cell 1⟩
theorem QN(w:World)(P M n:Int)(mv:Value)(C:Option Addr)(F E:Nat)(Mod:LI)(hm:SI w mv Mod):
  Calls Tryz.prog 147 #[.agg #[.int .i64 P,.int .i64 M,mv],.agg #[.int .i64 n,.slice C F E],.int .i64 0] w (PY w P M Mod n (.slice C F E)):=by
 have N:=zh (fun(w':World) (hb:Below w.heap.size w w')=>QO w' P M mv Mod (hm.below hb zr));unfold XL at N;clear hm;obtain⟨w1,Q,hq,t⟩:=FMC.mk' w P M mv n (.slice C F E);have D:=zh hq;have L:=zh Q;clear hq Q;go_enter Tryz.func147,Tryz.ntmps147;go_upto_region 1 with fail;rw[L.out];clear L;go_wp2_with fail;obtain⟨c0,c1,c2,d0,d1⟩:=show(fun w':World=>w'.cell? ⟨w.heap.size,0,none⟩=some (.int .i64 P)/\w'.cell? ⟨w.heap.size,1,none⟩=some (.int .i64 M)/\w'.cell? ⟨w.heap.size,2,none⟩=some mv/\w'.cell? ⟨w.heap.size+1,0,none⟩=some (.int .i64 n)/\w'.cell? ⟨w.heap.size+1,1,none⟩=some (.slice C F E)) w1 from⟨D.fm.fb.c0,D.fm.fb.c1,D.fm.fb.c2,D.fm.d0,D.fm.d1⟩
 refine aG.start (S:=fun w'=>w'.cell? ⟨w.heap.size,0,none⟩=some (.int .i64 P)/\w'.cell? ⟨w.heap.size,1,none⟩=some (.int .i64 M)/\w'.cell? ⟨w.heap.size,2,none⟩=some mv/\w'.cell? ⟨w.heap.size+1,0,none⟩=some (.int .i64 n)/\w'.cell? ⟨w.heap.size+1,1,none⟩=some (.slice C F E)) (by kernel_rfl) (⟨c0,c1,c2,d0,d1⟩) (fun G=>?_);change aG _ _ _ _ 9 _ _ _;refine tq 0 ?_;refine tq 2 ?_;refine tq 3 ?_;refine tq 4 ?_;refine tq 5 ?_;try simp only[tz]
 refine aG.only (i:=1) (by kernel_rfl) rfl (fun K hK=>?_);go_simp;refine(N _ (aA D.fm.fb.bel (aH w1))).mono ?_;rintro e w2 ⟨u,rfl,I,R⟩;obtain⟨H,J,rfl⟩:=I.form';have O:Hid (OI w1.heap.size w2 (.slice H Mod.length J) Mod):=aD I;have A:=zh (D.on (aA (aH w1) R));clear I R;refine hK.out _ _ (⟨A.fm.fb.c0,A.fm.fb.c1,A.fm.fb.c2,A.fm.d0,A.fm.d1⟩) ?_;clear hK K G;intro G;try simp only[tz]
 refine tq 6 ?_;try simp only[tz]
 refine aG.only (i:=7) (o:=?op1) (by kernel_rfl) ?ho1 (fun K hK=>?_)
 case ho1=>(conv=>lhs;simp only[tdg,tdh,tdi])
 obtain⟨l,m,p,r,s,X,Y,Z,a,b⟩:=A.q.five;go_simp;obtain⟨δ,T,B⟩:=uP (x:=.int .i64 P) (y:=.int .i64 M) (z:=.slice H Mod.length J) (u:=.int .i64 n) (v:=.slice C F E) A.q;rw[T];have V:=zh (A.s5 B.gr);have d:=B.c0;have f:=B.c1;have h:=B.c2;have j:=B.c3;have k:=B.c4;have W:=zh (O.grown B.gr (fun g hg e=>by have:=(O.lt hg).1;have:=aZ0 e;omega));have U:=zh (B.below A.fm.fb.bel A.fm.fb.bel.size (by omega));clear T l m p r s X Y Z a b B;refine hK.out _ _ (V.out) ?_;clear hK K G;intro G;try simp only[tz]
 refine aG.only (i:=8) (by kernel_rfl) rfl (fun K hK=>?_);go_simp;refine hK.out _ _ G (fun c=>?_);clear hK K;clear c;refine aG.done (by kernel_rfl) ?_;try simp only[tz]
 clear G;clear c0 c1 c2 d0 d1;go_wp2_with fail;refine bodyPost_ret (v:=.tuple #[.agg #[.int .i64 P,.int .i64 M,.slice H Mod.length J,.int .i64 n,.slice C F E],.int .i64 0]) (by simp[results,Tryz.results147,go_sem,d,f,h,j,k]) rfl ?_;exact⟨_,rfl,W.mono (by omega),U.out⟩
end Go.Proofs.YtpfhoemohibniaaGreatDoor
