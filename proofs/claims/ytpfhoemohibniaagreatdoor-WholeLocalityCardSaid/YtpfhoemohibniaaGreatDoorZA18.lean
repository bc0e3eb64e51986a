/- Texts of a claim, merged. -/
import Derived.Test.YtpfhoemohibniaaGreatDoorZA16
import Derived.Lib.Builder
import Derived.Lib.AppendStr
import Derived.Lib.Strings
set_option maxRecDepth 100000
set_option linter.unusedVariables false
set_option maxHeartbeats 32000000
namespace Go.Proofs.YtpfhoemohibniaaGreatDoor
open Go.RowKit
theorem Tryz.infoBld:(Tryz.prog.info? 192).map (fun i=>(i.zero,i.size,i.bytes))=some (some (.agg #[.pointer none,.slice none 0 0]),2,32):=by kernel_rfl
theorem Tryz.infoByte:(Tryz.prog.info? 5).map (fun i=>(i.zero,i.size,i.bytes))=some (some (.int .u8 0),1,1):=by kernel_rfl
theorem Tryz.liesBld:liesAt Tryz.prog Tryz.prog.depth 192 (2/Tryz.prog.cellsOf 192) 0 192 1=true:=by kernel_rfl
def BL(B b n:Nat)(w:World):Prop:=∃bs:List Value,bs.length=n/\Lib.IsBuilder 192 5 B b bs w
structure fT(b:Nat)(w w':World):Prop where
 os:w'.os=w.os
 tape:w'.tape=w.tape
 output:w'.output=w.output
 size:w.heap.size<=w'.heap.size
 keep:∀k,k<w.heap.size->k≠b->(∀cs fr,w.heap[k]?≠some (.cells cs 5 fr))->w'.heap[k]?=w.heap[k]?
theorem fT.refl(b:Nat)(w:World):fT b w w:=⟨rfl,rfl,rfl,Nat.le_refl _,fun _ _ _ _=>rfl⟩
theorem fT.trans{b:Nat}{w w1 w2:World}(h:fT b w w1)(k:fT b w1 w2):fT b w w2:=
 ⟨k.os.trans h.os,k.tape.trans h.tape,k.output.trans h.output,aZ6 h.size k.size,fun i hi hb A=>by have e:=h.keep i hi hb A;rw[k.keep i (aY1 hi h.size) hb (by rw[e];exact A),e]⟩
theorem fT.of_below{b:Nat}{w w':World}(h:Below w.heap.size w w'):fT b w w':=⟨h.os,h.tape,h.output,h.size,fun k A _ _=>h.block k A⟩
theorem fT.of_gr{b:Nat}{w w':World}(h:w.grownBy w' (some b)):fT b w w':=⟨h.os,h.tape,h.output,h.size,fun k A hb _=>h.block k A fun e=>hb (aZ0 e)⟩
theorem fT.of_row{B b n:Nat}{v:Value}{bs:List Value}{w w':World}(D:w.ownsRow B 5 1 v n bs)(h:w.grownBy w' v.ownBlock):fT b w w':=⟨h.os,h.tape,h.output,h.size,fun k C _ A=>h.block k C fun e=>by
 rcases D.2 with⟨rfl,_⟩|⟨g,E,F,rfl,_,hg,_⟩
 .simp[Value.ownBlock] at e
 .simp[Value.ownBlock] at e;subst e;exact A _ _ hg⟩
theorem fT.blk{b g:Nat}{t:TypeId}{cs:List Value}{w w':World}(h:fT b w w')(hb:Blk w g t cs)(hg:g≠b)(A:t≠5):Blk w' g t cs:=
 (h.keep g hb.lt hg fun B C e=>by unfold Blk at hb;rw[hb] at e;simp at e;exact A e.2.1).trans hb
theorem BL.on{B b n:Nat}{w w':World}(h:BL B b n w)(hb:Below w.heap.size w w'):BL B b n w':=by
 obtain⟨bs,hn,h⟩:=h;have A:∀p,Lib.BuilderAt 192 5 B b p bs w->Lib.BuilderAt 192 5 B b p bs w':=fun p h=>by have D:=h.lt;obtain⟨hB,v,C,F,E⟩:=h;exact⟨hB,v,(hb.block b D).trans C,World.ownsRow.kept F (aN hb none) (by cases v.ownBlock<;>simp),E⟩
 exact⟨bs,hn,h.elim (fun h=>.inl (A _ h)) (fun h=>.inr (A _ h))⟩
theorem BL.lt{B b n:Nat}{w:World}(h:BL B b n w):B<=b/\b<w.heap.size:=by obtain⟨bs,hn,h⟩:=h;rcases h with h|h<;>exact⟨h.1,h.lt⟩
theorem E9(b:Nat)(w:World)(B:w.cell? ⟨b,0,none⟩=some (.pointer (some ⟨b,0,none⟩))):
  Calls Tryz.prog 286 #[.pointer (some ⟨b,0,none⟩)] w fun e w'=>e=.returned (.tuple #[])/\w'=w:=by
 obtain⟨G,hi,D,E,F⟩:=info_parts Tryz.infoBld;have C:=fun A=>Lib.run_neq_ptr_same (P:=Tryz.prog) A (tp:=189) ⟨b,0,none⟩ Tryz.underlying189 hi;go_enter Tryz.func286,Tryz.ntmps286
 go_wp2
 go_end0
 exact⟨rfl,rfl⟩
theorem DV(b:Nat)(w:World)(C:w.cell? ⟨b,0,none⟩=some (.pointer none))(A:w.shape? b=some (192,2))(G:w.frozen? ⟨b,0,none⟩=false):
  Calls Tryz.prog 286 #[.pointer (some ⟨b,0,none⟩)] w fun e w'=>e=.returned (.tuple #[])/\w'=w.setCell ⟨b,0,none⟩ (.pointer (some ⟨b,0,none⟩)):=by
 obtain⟨J,hi,H,B,I⟩:=info_parts Tryz.infoBld;have D:=Lib.run_to_unsafe (P:=Tryz.prog) w (src:=189) (dst:=336) ⟨b,0,none⟩ Tryz.underlying189 Tryz.underlying336 hi (by rw[B];decide) A (Nat.zero_lt_succ 1);have E:(callFunc 342 #[.pointer (some ⟨b,0,none⟩)]).run Tryz.prog w=.ok (.value (.pointer (some ⟨b,0,none⟩))) w:=by rw[run_callFunc_extern Tryz.func342 (by kernel_rfl) (by kernel_rfl) (by kernel_rfl) (e:=Extern.AbiNoEscape.same) (by kernel_rfl),Lib.run_noEscape];rfl
 have F:=Lib.run_from_unsafe (P:=Tryz.prog) w (src:=336) (dst:=189) ⟨b,0,none⟩ Tryz.underlying336 Tryz.underlying189 hi A Tryz.liesBld;go_enter Tryz.func286,Tryz.ntmps286
 go_wp2
 go_end0
 exact⟨rfl,rfl⟩
theorem yJ(B b:Nat)(bs:List Value)(w:World)(h:Lib.IsBuilder 192 5 B b bs w):
  Calls Tryz.prog 286 #[.pointer (some ⟨b,0,none⟩)] w fun e w'=>e=.returned (.tuple #[])/\(Lib.BuilderAt 192 5 B b (.pointer (some ⟨b,0,none⟩)) bs w'/\Below B w w'/\fT b w w'):=by
 rcases h with h|h
 .refine(DV b w h.cell0 h.shape h.frozen0).mono ?_;rintro e w' ⟨rfl,rfl⟩;exact⟨rfl,h.used _,(Below.refl B w).setCell (p:=⟨b,0,none⟩) h.1 _,.of_gr (bF w b 0 _)⟩
 .refine(E9 b w h.cell0).mono ?_;rintro e w' ⟨rfl,rfl⟩;exact⟨rfl,h,Below.refl B _,.refl b _⟩
theorem yK(B b n:Nat)(w:World)(h:BL B b n w):Calls Tryz.prog 131 #[.pointer (some ⟨b,0,none⟩)] w fun e w'=>e=.returned (.int .i64 (n:Int))/\w=w':=by
 obtain⟨bs,hn,h⟩:=h;obtain⟨p,hB,v,E,F,I⟩:∃p,Lib.BuilderAt 192 5 B b p bs w:=by
  rcases h with h|h
  .exact⟨_,h⟩
  .exact⟨_,h⟩
 obtain⟨C,A,rfl⟩:∃C A,v=.slice C bs.length A:=by
  rcases F.2 with⟨D,H⟩|⟨g,A,J,D,_⟩
  .exact⟨none,0,by rw[D,H]⟩
  .exact⟨_,_,D⟩
 have G:w.cell? ⟨b,1,none⟩=some (.slice C bs.length A):=by rw[Lib.cell_of_heap E];rfl
 rw[hn] at G;clear E F I h hn;go_enter Tryz.func131,Tryz.ntmps131;go_wp2_with fail;go_ret;exact⟨rfl,rfl⟩
theorem ME(B b n:Nat)(c:Int)(w:World)(h:BL B b n w)(f:n+1<=100000000)(d:B<=w.heap.size):
  Calls Tryz.prog 188 #[.pointer (some ⟨b,0,none⟩),.int .u8 c] w fun e w'=>e=.returned .nilIface/\BL B b (n+1) w'/\Below B w w'/\fT b w w':=by
 obtain⟨S,hi,P,Q,R⟩:=info_parts Tryz.infoByte;obtain⟨bs,rfl,h⟩:=h;go_enter Tryz.func188,Tryz.ntmps188;go_wp2_with fail;refine(yJ B b bs _ h).mono ?_;rintro e w1 ⟨rfl,J,C,N⟩;obtain⟨hB,v,E,H,M⟩:=J;have U:w1.cell? ⟨b,0,none⟩=some (.pointer (some ⟨b,0,none⟩)):=by rw[Lib.cell_of_heap E];rfl
 have V:w1.cell? ⟨b,1,none⟩=some v:=by rw[Lib.cell_of_heap E];rfl
 have L:b<w1.heap.size:=by
  rcases Nat.lt_or_ge b w1.heap.size with F|F
  .exact F
  .simp[Array.getElem?_eq_none F] at E
 go_wp2_with (
  at_builtin;refine wpList_append_own _ rfl _ _ 190 rfl B 5 S (.int .u8 0) 1 1 Tryz.underlying190 hi P Q R rfl (by decide) _ _ _ rfl (H.alloc _) ⟨w1.heap.size,0,none⟩ 1 1 [.int .u8 c] rfl rfl (cell_one_new _ _ _) (ints_oneCell .u8 [c]) (by unfold maxLen;omega) (by omega) (by have:=C.size;simp;omega) ?_;intro v' w2 I G _;have D:w2.heap[b]?=some (.cells #[.pointer (some ⟨b,0,none⟩),v] 192 (0,0)):=by rw[G.block b (by simp;omega) (fun e=>M e.symm),Lib.alloc_old w1 _ b L];exact E
  have X:w2.cell? ⟨b,0,none⟩=some (.pointer (some ⟨b,0,none⟩)):=by rw[Lib.cell_of_heap D];rfl
  have Y:w2.cell? ⟨b,1,none⟩=some v:=by rw[Lib.cell_of_heap D];rfl
  have Z:w2.frozen? ⟨b,1,none⟩=false:=Lib.frozen_of_heap D 1;obtain⟨g,A,rfl⟩:∃g A,v'=.slice (some ⟨g,0,none⟩) (bs.length+1) A:=by
   rcases I.2 with⟨_,a⟩|⟨g,A,W,O,_⟩
   .omega
   .exact⟨g,A,O⟩)
 go_ret;refine⟨rfl,⟨bs++[.int .u8 c],by simp,.inr (Lib.BuilderAt.put (T:=192) (e:=5) hB D (bs':=bs++[.int .u8 c]) (by simpa using I) (by decide))⟩,?_,((N.trans (.of_below (aF w1 _))).trans (.of_row (H.alloc _) G)).trans (.of_gr (bF w2 b 1 _))⟩;exact((C.alloc (by have:=C.size;omega) _).grown G (by have:=C.size;simp;omega) (fun k K=>(H.lt k K).1)).setCell (p:=⟨b,1,none⟩) hB _
theorem yL(B b n:Nat)(s:ByteArray)(w:World)(h:BL B b n w)(f:n+s.size<=100000000)(d:B<=w.heap.size):
  Calls Tryz.prog 186 #[.pointer (some ⟨b,0,none⟩),.string s] w fun e w'=>e=.returned (.tuple #[.int .i64 s.size,.nilIface])/\BL B b (n+s.size) w'/\Below B w w'/\fT b w w':=by
 obtain⟨V,hi,R,S,U⟩:=info_parts Tryz.infoByte;obtain⟨bs,rfl,h⟩:=h;go_enter Tryz.func186,Tryz.ntmps186;go_wp2_with fail;refine(yJ B b bs _ h).mono ?_;rintro e w1 ⟨rfl,M,F,Q⟩;obtain⟨hB,v,C,H,P⟩:=M;have W:w1.cell? ⟨b,0,none⟩=some (.pointer (some ⟨b,0,none⟩)):=by rw[Lib.cell_of_heap C];rfl
 have X:w1.cell? ⟨b,1,none⟩=some v:=by rw[Lib.cell_of_heap C];rfl
 have O:b<w1.heap.size:=by
  rcases Nat.lt_or_ge b w1.heap.size with E|E
  .exact E
  .simp[Array.getElem?_eq_none E] at C
 go_wp2_with (
  at_builtin;refine Lib.wpList_append_own_string _ rfl _ _ 190 9 rfl B 5 V Tryz.underlying190 Tryz.underlying9 hi R S U _ _ _ rfl H s rfl (by unfold maxLen;omega) (by omega) (by have:=F.size;omega) ?_;intro v' w2 K G _;have A:w2.heap[b]?=some (.cells #[.pointer (some ⟨b,0,none⟩),v] 192 (0,0)):=by rw[G.block b O (fun e=>P e.symm)];exact C
  have Z:w2.cell? ⟨b,0,none⟩=some (.pointer (some ⟨b,0,none⟩)):=by rw[Lib.cell_of_heap A];rfl
  have a:w2.cell? ⟨b,1,none⟩=some v:=by rw[Lib.cell_of_heap A];rfl
  have c:w2.frozen? ⟨b,1,none⟩=false:=Lib.frozen_of_heap A 1;obtain⟨J,L,D,rfl⟩:∃J L D,v'=.slice J L D:=by
   rcases K.2 with⟨I,_⟩|⟨g,D,Y,I,_⟩
   .exact⟨_,_,_,I⟩
   .exact⟨_,_,_,I⟩)
 go_ret2;refine⟨rfl,⟨bs++Lib.strCells s,by simp[Lib.strCells_length],.inr (Lib.BuilderAt.put (T:=192) (e:=5) hB A (bs':=bs++Lib.strCells s) (by simpa[Lib.strCells_length] using K) (by decide))⟩,?_,(Q.trans (.of_row H G)).trans (.of_gr (bF w2 b 1 _))⟩;exact(F.grown G (by have:=F.size;omega) (fun k N=>(H.lt k N).1)).setCell (p:=⟨b,1,none⟩) hB _
def D2(x:Nat):ByteArray:=ByteArray.extract ⟨#[48,49,50,51,52,53,54,55,56,57,97,98,99,100,101,102,103,104,105,106,107,108,109,110,111,112,113,114,115,116,117,118,119,120,121,122]⟩ x (x+1)
theorem FO:∀x,x<10->(D2 x).size=1:=by decide
theorem JJ(w:World)(x:Nat)(L:x<10):Calls Tryz.prog 187 #[.int .i64 (x:Int)] w (fun e w'=>e=.returned (.string (D2 x))/\w=w'):=by
 obtain⟨u,B⟩:∃u,u=D2 x:=⟨_,rfl⟩
 have F:=fun A=>yB (s:=⟨#[48,49,50,51,52,53,54,55,56,57,97,98,99,100,101,102,103,104,105,106,107,108,109,110,111,112,113,114,115,116,117,118,119,120,121,122]⟩) (i:=x) (j:=x+1) (by omega) (by show x+1<=36;omega) (u:=u) (by rw[B];rfl) A;rw[show((x+1:Nat):Int)=(x:Int)+1 by omega] at F;rw[<-B];clear B;have C:∀A:World,Calls Tryz.prog 378 #[.int .i64 (x:Int)] A (fun e w'=>e=.returned (.string u)/\A=w'):=fun A=>by have J:decide ((x:Int)<10)=true:=decide_eq_true (by omega);have K:decide (x<10)=true:=decide_eq_true L;go_enter Tryz.func378,Tryz.ntmps378;go_wp2_with fail;go_ret;exact⟨rfl,rfl⟩
 have G:=zh C;clear C F;have D:∀A:World,Calls Tryz.prog 343 #[.int .i64 (x:Int),.int .i64 10] A (fun e w'=>e=.returned (.string u)/\A=w'):=fun A=>by have J:decide ((0:Int)<=(x:Int))=true:=decide_eq_true (by omega);have K:decide ((x:Int)<100)=true:=decide_eq_true (by omega);have M:decide (x<100)=true:=decide_eq_true (by omega);go_enter Tryz.func343,Tryz.ntmps343;go_wp2_with fail;refine(G _).mono ?_;rintro e w1 ⟨rfl,rfl⟩;go_wp2_with fail;go_ret;exact⟨rfl,rfl⟩
 have H:=zh D;clear D;have E:∀A:World,Calls Tryz.prog 287 #[.int .i64 (x:Int)] A (fun e w'=>e=.returned (.string u)/\A=w'):=fun A=>by go_enter Tryz.func287,Tryz.ntmps287;go_wp2_with fail;refine(H _).mono ?_;rintro e w1 ⟨rfl,rfl⟩;go_wp2_with fail;go_ret;exact⟨rfl,rfl⟩
 have I:=zh E;clear E;go_enter Tryz.func187,Tryz.ntmps187;go_wp2_with fail;refine(I _).mono ?_;rintro e w1 ⟨rfl,rfl⟩;go_wp2_with fail;go_ret;exact⟨rfl,rfl⟩
def P0(B b n:Nat)(w:World)(e:Ending)(w':World):Prop:=e=.returned (.tuple #[])/\BL B b n w'/\Below B w w'/\fT b w w'
theorem mI(w:World)(B D:TypeId)(A C:List Value):∃w0,(w.alloc (.cells A.toArray B)).alloc (.cells C.toArray D)=w0/\Blk w0 w.heap.size B A/\Blk w0 (w.heap.size+1) D C/\Below w.heap.size w w0:=by
 have G:(w.alloc (.cells A.toArray B)).heap.size=w.heap.size+1:=by show(w.heap.push _).size=_;rw[Array.size_push]
 have F:=Blk.new w B A;have E:=Blk.new (w.alloc (.cells A.toArray B)) D C;rw[G] at E;exact⟨_,rfl,F.alloc _,E,aA (aF _ _) (aF _ _)⟩
theorem QE{B:Nat}{w w':World}(h:Below w.heap.size w w')(hB:B<=w.heap.size):Below B w w':=h.mono hB
theorem PN(w:World)(B b n x:Nat)(U:x<10)(h:BL B b n w)(hn:n<=60000)(hB:B<=w.heap.size):
  Calls Tryz.prog 130 #[.pointer (some ⟨b,0,none⟩),.agg #[.int .i64 1,.string {data:=#[]},.int .i64 (x:Int),.slice none 0 0,.slice none 0 0]] w (P0 B b (n+1) w):=by
 obtain⟨w0,F,T,hq,C⟩:=mI w 189 43 [.pointer (some ⟨b,0,none⟩)] (gB x);unfold gB at F hq;have p:=h.lt;have j:B<=w0.heap.size:=aZ6 hB C.size;have Y:=zh (fun A (h:BL B b n A)=>yK B b n A h);have J:=zh (fun A=>JJ A x U);obtain⟨u,H⟩:∃u,D2 x=u:=⟨_,rfl⟩
 have l:u.size=1:=by rw[<-H];exact FO x U
 rw[H] at J;have M:=zh (fun A (h:BL B b n A) (hb:B<=A.heap.size)=>yL B b n u A h (by omega) hb);rw[l] at M;have I:=zh (h.on C);have L:=zh T;have E:=zh hq;have f:=zh (QE C hB);have c:Hid (fT b w w0):=aD (.of_below C);clear h C H T hq;have m:decide ((65536:Int)<(n:Int))=false:=decide_eq_false (by omega);have o:decide (65536<n)=false:=decide_eq_false (by omega);have q:∀(fn:Fn) (P O:Array Value) (w:World),(Instr.makeFunc fn P O).run Tryz.prog w=.ok (.func fn P O) w:=fun _ _ _ _=>rfl;go_enter Tryz.func130,Tryz.ntmps130;go_upto_region 1 with fail;try rw[F]
 clear F;have N:w0.cell? ⟨w.heap.size,0,none⟩=some (.pointer (some ⟨b,0,none⟩)):=L.cell 0;have r:w0.cell? ⟨w.heap.size+1,0,none⟩=some (.int .i64 1):=E.cell 0;have V:w0.cell? ⟨w.heap.size+1,2,none⟩=some (.int .i64 (x:Int)):=E.cell 2;have W:=zh (I.on (aH w0));go_wp2_with fail;refine(Y.out w0 I).mono ?_;rintro e w1 ⟨rfl,rfl⟩;go_wp2_with fail;refine aG.start (S:=fun w'=>w'.cell? ⟨w.heap.size,0,none⟩=some (.pointer (some ⟨b,0,none⟩))/\w'.cell? ⟨w.heap.size+1,2,none⟩=some (.int .i64 (x:Int))) (by kernel_rfl) (⟨N,V⟩) (fun G=>?_);change aG _ _ _ _ 5 _ _ _;refine tq 0 ?_;refine tq 1 ?_;refine tq 2 ?_;try simp only[tz]
 refine aG.only (i:=3) (by kernel_rfl) rfl (fun K hK=>?_);go_simp;refine(J _).mono ?_;rintro e s ⟨rfl,rfl⟩;refine hK.out _ _ (⟨N,V⟩) ?_;clear hK K G;intro G;try simp only[tz]
 refine aG.only (i:=4) (by kernel_rfl) rfl (fun K hK=>?_);go_simp;refine(M.out w0.drew W j).mono ?_;rintro e t ⟨rfl,R,Q,D⟩;have Z:=zh (D.blk (L.belowS (aH w0)) (by omega) (by decide));have a:=zh (D.blk (E.belowS (aH w0)) (by omega) (by decide));have X:=zh R;have g:=zh ((f.drew).trans Q);have d:=zh ((c.trans (.of_below (aH w0))).trans D);clear R Q D;refine hK.out _ _ (⟨Z.cell 0,a.cell 2⟩) (fun k=>?_);clear hK K;clear k;refine aG.done (by kernel_rfl) ?_;try simp only[tz]
 clear G;go_wp2_with fail;refine bodyPost_end (results_none rfl _ _ _) rfl ?_;exact⟨rfl,X.out,g.out,d.out⟩
structure yF(w0:World)(kd:Int)(nm:ByteArray)(x:Int)(A:Option Addr)(n c ln:Nat):Prop where
 run:∀(w':World) (B b cnt:Nat),Below w0.heap.size w0 w'->w0.heap.size<=B->BL B b cnt w'->B<=w'.heap.size->cnt+ln<=60000->
  Calls Tryz.prog 130 #[.pointer (some ⟨b,0,none⟩),.agg #[.int .i64 kd,.string nm,.int .i64 x,.slice none 0 0,.slice A n c]] w' (P0 B b (cnt+ln) w')
theorem yF.num(w0:World)(x:Nat)(E:x<10):yF w0 1 {data:=#[]} (x:Int) none 0 0 1:=⟨fun w' B b A _ _ C D F=>PN w' B b A x E C (by omega) D⟩
structure AY(w0:World)(A:Option Addr)(m c:Nat)(vs:List (List Value))(B b p q cnt:Nat)(w:World):Prop where
 bel:Below w0.heap.size w0 w
 hB:w0.heap.size<=B/\B<=w.heap.size
 bl:BL B b cnt w
 bp:Blk w p 189 [.pointer (some ⟨b,0,none⟩)]
 bq:∃x0 x1 x2 x3,Blk w q 43 [x0,x1,x2,x3,.slice A m c]
 ne:p≠b/\q≠b
theorem AY.step{w0:World}{A:Option Addr}{m c:Nat}{E:List (List Value)}{B b p q F D:Nat}{w w':World}(h:AY w0 A m c E B b p q F w)(G:BL B b D w')(hb:Below B w w')(C:fT b w w'):AY w0 A m c E B b p q D w':=
 ⟨h.bel.trans (hb.mono h.hB.1),⟨h.hB.1,aZ6 h.hB.2 C.size⟩,G,C.blk h.bp h.ne.1 (by decide),by obtain⟨x0,x1,x2,x3,hq⟩:=h.bq;exact⟨x0,x1,x2,x3,C.blk hq h.ne.2 (by decide)⟩,h.ne⟩
theorem W8(w0 w:World)(A:Option Addr)(m c:Nat)(G:List (List Value))(B b p q E k V:Nat)(h:AY w0 A m c G B b p q E w)(Z:RG 5 w0 (.slice A m c) G)(ζ:G.length=m)(hm:m<=100)(π:k<m)
  (η:∃J L x H n c',G.getD k []=XC J L x H n c'/\yF w0 J L x H n c' V)(ε:E+V<=60000):
  Calls Tryz.prog 190 #[.int .i64 (k:Int),.pointer (some ⟨p,0,none⟩),.pointer (some ⟨q,0,none⟩)] w (P0 B b (E+V) w):=by
 obtain⟨J,L,x,H,n,c',Y,X⟩:=η;obtain⟨C,rfl,M,N,O,P,Q⟩:=Z.xc (k:=k) (by omega) Y;have θ:=aE h.bel M;have ι:=aE h.bel N;have κ:=aE h.bel O;have μ:=aE h.bel P;have ν:=aE h.bel Q;have j:=zh M;have l:=zh N;have o:=zh O;have r:=zh P;have s:=zh Q;clear M N O P Q;have F:AY w0 (some C) m c G B b p q E w.drew:=h.step (h.bl.on (aH w)) ((aH w).mono h.hB.2) (.of_below (aH w));have t:=zh (X.run w.drew B b E F.bel F.hB.1 F.bl F.hB.2 ε);obtain⟨x0,x1,x2,x3,hq⟩:=h.bq;have u:w.cell? ⟨p,0,none⟩=some (.pointer (some ⟨b,0,none⟩)):=h.bp.cell 0;have v:w.cell? ⟨q,4,none⟩=some (.slice (some C) m c):=hq.cell 4;have I:=zh h;have f:=zh hq;have y:(k:Int)<(m:Int):=by omega
 have ξ:decide ((k:Int)<(m:Int))=true:=decide_eq_true y;clear h F X Y Z ζ hq;go_enter Tryz.func190,Tryz.ntmps190;refine aG.start (S:=fun w'=>w'.cell? ⟨p,0,none⟩=some (.pointer (some ⟨b,0,none⟩))/\w'.cell? ⟨q,4,none⟩=some (.slice (some C) m c)/\w'.cell? (C.add (k*5))=some (.int .i64 J)/\w'.cell? ⟨(C.add (k*5)).block,(C.add (k*5)).off+1,none⟩=some (.string L)/\w'.cell? ⟨(C.add (k*5)).block,(C.add (k*5)).off+2,none⟩=some (.int .i64 x)/\w'.cell? ⟨(C.add (k*5)).block,(C.add (k*5)).off+3,none⟩=some (.slice none 0 0)/\w'.cell? ⟨(C.add (k*5)).block,(C.add (k*5)).off+4,none⟩=some (.slice H n c')) (by kernel_rfl) (⟨u,v,θ,ι,κ,μ,ν⟩) (fun z=>?_);change aG _ _ _ _ 7 _ _ _;refine tq 0 ?_;refine tq 1 ?_;refine tq 2 ?_;refine tq 3 ?_;refine tq 4 ?_;refine tq 5 ?_;try simp only[tz]
 refine aG.only (i:=6) (by kernel_rfl) rfl (fun K hK=>?_);go_simp;refine t.mono ?_;rintro e ρ ⟨rfl,T,R,U⟩;have D:=zh (I.step T (((aH w).mono I.hB.2).trans R) ((fT.of_below (aH w)).trans U));have d:=zh T;have a:=zh (((aH w).mono I.hB.2).trans R);have W:=zh ((fT.of_below (aH w)).trans U);have g:=zh (W.blk f I.ne.2 (by decide));clear T R U;refine hK.out _ _ (⟨D.bp.cell 0,g.cell 4,aE D.bel j,aE D.bel l,aE D.bel o,aE D.bel r,aE D.bel s⟩) (fun δ=>?_);clear hK K;clear δ;refine aG.done (by kernel_rfl) ?_;try simp only[tz]
 clear z;go_wp2_with fail;refine bodyPost_end (results_none rfl _ _ _) rfl ?_;exact⟨rfl,d.out,a.out,W.out⟩
def oS(A:Nat->Nat):Nat->Nat
 |0=>0
 |k+1=>oS A k+(if k=0 then 0 else 2)+A k
theorem PF(A:Nat->Nat):∀{k m},k<=m->oS A k<=oS A m:=fun{k m} h=>by
 induction h with
 |refl=>exact Nat.le_refl _
 |step _ ih=>exact aZ6 ih (by simp only[oS];omega)
theorem UY(w0 w:World)(A:Option Addr)(m c:Nat)(I:List (List Value))(B b p q L:Nat)(C:Nat->Nat)(h:AY w0 A m c I B b p q L w)(f:RG 5 w0 (.slice A m c) I)(g:I.length=m)(hm:m<=100)
  (j:∀k,k<m->∃l o x W n c',I.getD k []=XC l o x W n c'/\yF w0 l o x W n c' (C k))(M:L+oS C m<=60000):
  Calls Tryz.prog 185 #[.int .i64 (m:Int),.func (.func 190) #[] #[.pointer (some ⟨p,0,none⟩),.pointer (some ⟨q,0,none⟩)],.pointer (some ⟨p,0,none⟩)] w (P0 B b (L+oS C m) w):=by
 have Y:=zh (fun(K:World) (k E:Nat) (h:AY w0 A m c I B b p q E K) (N:k<m) (M:E+C k<=60000)=>W8 w0 K A m c I B b p q E k (C k) h f g hm N (j k N) M);have a:=zh (fun(K:World) (E:Nat) (h:BL B b E K) (M:E<=60000) (hb:B<=K.heap.size)=>yL B b E ⟨#[44,32]⟩ K h (by show E+2<=_;omega) hb);have d:(⟨#[44,32]⟩:ByteArray).size=2:=rfl;rw[d] at a;have X:=zh h;have s:=zh (fun k (N:k<=m)=>aZ6 (Nat.add_le_add_left (PF C N) L) M);clear h j f g M d;go_enter Tryz.func185,Tryz.ntmps185;go_wp2_with fail;go_loopw [7] (fun i wr=>∃k:Nat,k<=m/\i=.int .i64 (k:Int)/\Hid (AY w0 A m c I B b p q (L+oS C k) wr)/\Hid (Below B w wr)/\Hid (fT b w wr)) (fun i _=>m-(intOf i).toNat)
 case atStart=>exact⟨0,aZ5 _,rfl,X,aD (Below.refl _ _),aD (.refl _ _)⟩
 case round=>
  clear X;obtain⟨k,N,rfl,G,T,Q⟩:=hrel;by_cases V:k<m
  .have H:=s.out (k+1) V;simp only[oS] at H;by_cases J:k=0
   .have v:decide ((0:Int)<(k:Int))=false:=decide_eq_false (by omega);have y:decide (0<k)=false:=decide_eq_false (by omega);have S:Hid (oS C (k+1)=oS C k+C k):=aD (by show _=_;simp only[oS];rw[if_pos J];omega);rw[if_pos J] at H;have O:=zh H;clear H J;go_wp2_with fail;refine(Y wr k _ G V (by have:=O.out;omega)).mono ?_;rintro e w2 ⟨rfl,F,hb,D⟩;have P:=zh (G.step F hb D);have U:=zh (T.trans hb);have R:=zh (Q.trans D);clear F hb D;go_wp2_with fail;exact⟨⟨k+1,by omega,by push_cast;rfl,by rw[S.out,<-Nat.add_assoc];exact P,U,R⟩,by simp only[intOf];omega⟩
   .have v:decide ((0:Int)<(k:Int))=true:=decide_eq_true (by omega);have y:decide (0<k)=true:=decide_eq_true (by omega);have S:Hid (oS C (k+1)=oS C k+2+C k):=aD (by show _=_;simp only[oS];rw[if_neg J]);rw[if_neg J] at H;have O:=zh H;clear H J;have u:wr.cell? ⟨p,0,none⟩=some (.pointer (some ⟨b,0,none⟩)):=G.bp.cell 0;go_wp2_with fail;refine(a wr _ G.bl (by have:=O.out;omega) G.hB.2).mono ?_;rintro e w1 ⟨rfl,F,hb,D⟩;have Z:=zh (G.step F hb D);have t:=zh (T.trans hb);have r:=zh (Q.trans D);clear F hb D u;go_wp2_with fail;refine(Y.out w1 k _ Z V (by have:=O.out;omega)).mono ?_;rintro e w2 ⟨rfl,F,hb,D⟩;have P:=zh (Z.step F hb D);have U:=zh (t.trans hb);have R:=zh (r.trans D);clear F hb D;go_wp2_with fail;exact⟨⟨k+1,by omega,by push_cast;rfl,by rw[S.out,<-Nat.add_assoc,<-Nat.add_assoc];exact P,U,R⟩,by simp only[intOf];omega⟩
  .obtain rfl:m=k:=by omega
   go_wp2_with fail;refine bodyPost_end (results_none rfl _ _ _) rfl ?_;exact⟨rfl,G.bl,T.out,Q.out⟩
theorem KP(w0 w:World)(nm:ByteArray)(A:Option Addr)(m c:Nat)(L:List (List Value))(B b E:Nat)(K:Nat->Nat)(g:Below w0.heap.size w0 w)(τ:w0.heap.size<=B)(U:BL B b E w)(hB:B<=w.heap.size)(o:RG 5 w0 (.slice A m c) L)(p:L.length=m)(hm:m<=100)
  (q:∀k,k<m->∃r s x V n c',L.getD k []=XC r s x V n c'/\yF w0 r s x V n c' (K k))(H:E+(nm.size+1+oS K m+1)<=60000):
  Calls Tryz.prog 130 #[.pointer (some ⟨b,0,none⟩),.agg #[.int .i64 3,.string nm,.int .i64 0,.slice none 0 0,.slice A m c]] w (P0 B b (E+(nm.size+1+oS K m+1)) w):=by
 obtain⟨w1,T,i,hq,J⟩:=mI w 189 43 [.pointer (some ⟨b,0,none⟩)] (XBk nm (.slice A m c));unfold XBk at T hq;have Ab:=U.lt;have f:AY w0 A m c L B b w.heap.size (w.heap.size+1) E w1:=⟨aA g J,⟨τ,aZ6 hB J.size⟩,U.on J,i,⟨_,_,_,_,hq⟩,by omega,by omega⟩
 have I:=zh f;have R:=zh hq;have μ:=zh (QE J hB);have ζ:Hid (fT b w w1):=aD (.of_below J);obtain⟨P,j⟩:∃P,P=nm.size:=⟨_,rfl⟩
 obtain⟨Q,l⟩:∃Q,Q=oS K m:=⟨_,rfl⟩
 have z:=zh (fun D (h:BL B b E D)=>yK B b E D h);have Y:=zh (fun D (h:BL B b E D) (hb:B<=D.heap.size)=>yL B b E nm D h (by omega) hb);have W:=zh (fun D (G:Nat) (σ:Int) (h:BL B b G D) (H:G<=60000) (hb:B<=D.heap.size)=>ME B b G σ D h (by omega) hb);have X:=zh (fun(D:World) (G:Nat) (h:AY w0 A m c L B b w.heap.size (w.heap.size+1) G D) (H:G+oS K m<=60000)=>UY w0 D A m c L B b w.heap.size (w.heap.size+1) G K h o p hm q H);rw[<-j] at Y H|-;rw[<-l] at X H|-;have M:=zh H;clear g U o p q H i hq J f j l;have ω:decide ((65536:Int)<(E:Int))=false:=decide_eq_false (by have:=M.out;omega);have Aa:decide (65536<E)=false:=decide_eq_false (by have:=M.out;omega);have Ac:∀(fn:Fn) (d a:Array Value) (w:World),(Instr.makeFunc fn d a).run Tryz.prog w=.ok (.func fn d a) w:=fun _ _ _ _=>rfl;go_enter Tryz.func130,Tryz.ntmps130;go_upto_region 1 with fail;try rw[T]
 clear T;have O:w1.cell? ⟨w.heap.size,0,none⟩=some (.pointer (some ⟨b,0,none⟩)):=I.bp.cell 0;have φ:w1.cell? ⟨w.heap.size+1,0,none⟩=some (.int .i64 3):=R.cell 0;have χ:w1.cell? ⟨w.heap.size+1,1,none⟩=some (.string nm):=R.cell 1;go_wp2_with fail;refine(z.out w1 I.bl).mono ?_;rintro e w2 ⟨rfl,rfl⟩;go_wp2_with fail;refine(Y.out w1 I.bl I.hB.2).mono ?_;rintro e t ⟨rfl,F,hb,C⟩;have N:=zh (I.step F hb C);have δ:=zh (C.blk R I.ne.2 (by decide));have ν:=zh (μ.trans hb);have η:=zh (ζ.trans C);clear F hb C O φ χ;have O:t.cell? ⟨w.heap.size,0,none⟩=some (.pointer (some ⟨b,0,none⟩)):=N.bp.cell 0;go_wp2_with fail;refine(W.out t _ _ N.bl (by have:=M.out;omega) N.hB.2).mono ?_;rintro e u ⟨rfl,F,hb,C⟩;have Z:=zh (N.step F hb C);have ε:=zh (C.blk δ N.ne.2 (by decide));have ξ:=zh (ν.trans hb);have θ:=zh (η.trans C);clear F hb C O;have ψ:u.cell? ⟨w.heap.size+1,4,none⟩=some (.slice A m c):=ε.cell 4;go_wp2_with fail;refine(X.out u _ Z (by have:=M.out;omega)).mono ?_;rintro e v ⟨rfl,F,hb,C⟩;have S:=zh (Z.step F hb C);have π:=zh (ξ.trans hb);have ι:=zh (θ.trans C);clear F hb C ψ;have O:v.cell? ⟨w.heap.size,0,none⟩=some (.pointer (some ⟨b,0,none⟩)):=S.bp.cell 0;go_wp2_with fail;refine(W.out v _ _ S.bl (by have:=M.out;omega) S.hB.2).mono ?_;rintro e Ad ⟨rfl,F,hb,C⟩;have y:=zh F;have ρ:=zh (π.trans hb);have κ:=zh (ι.trans C);clear F hb C O;go_wp2_with fail;refine bodyPost_end (results_none rfl _ _ _) rfl ?_;refine⟨rfl,?_,ρ.out,κ.out⟩;have:=y.out;rw[show E+P+1+Q+1=E+(P+1+Q+1) by omega] at this;exact this
theorem yF.call(w0:World)(nm:ByteArray)(A:Option Addr)(m c:Nat)(C:List (List Value))(D:Nat->Nat)(N:RG 5 w0 (.slice A m c) C)(O:C.length=m)(hm:m<=100)
  (P:∀k,k<m->∃F G x E n c',C.getD k []=XC F G x E n c'/\yF w0 F G x E n c' (D k)):yF w0 3 nm 0 A m c (nm.size+1+oS D m+1):=
 ⟨fun w' B b H I J K L M=>KP w0 w' nm A m c C B b H D I J K L N O hm P M⟩
end Go.Proofs.YtpfhoemohibniaaGreatDoor
