/- Texts of a claim, merged. -/
import Derived.Test.YtpfhoemohibniaaGreatDoorZA12
import Derived.Test.YtpfhoemohibniaaGreatDoorZA23
set_option maxRecDepth 100000
set_option linter.unusedVariables false
set_option maxHeartbeats 32000000
namespace Go.Proofs.YtpfhoemohibniaaGreatDoor
open Go.RowKit
theorem KX.cell{B:Nat}{X:Nat->Prop}{w w':World}(h:KX B X w w'){b o:Nat}{u:Value}(A:w.cell? ⟨b,o,none⟩=some u)(D:X b):w'.cell? ⟨b,o,none⟩=some u:=by have C:b<w.heap.size:=World.block_lt_of_cell? _ _ A;rw[World.cell?_of_block (w:=w) (h.box b D C)];exact A
section
variable {w:World} {B g n c g4 g5 g7 gk ga gi gx a k i A:Nat} {X:Nat->Prop} {l:LL}
theorem M2(P:w.cell? ⟨g5,0,none⟩=some (.slice (some ⟨g,0,none⟩) n c))(L:w.cell? ⟨g7,0,none⟩=some (.slice none 0 0))(x7:X g7)
  (F:OM B X w (.slice (some ⟨g,0,none⟩) n c) l)(hn:l.length=n)(M:a<n)(A:k<n)(G:a≠k)(O:X gk)(N:X ga)
  (E:w.cell? ⟨gk,0,none⟩=some (.int .i64 (k:Int)))(D:w.cell? ⟨ga,0,none⟩=some (.int .i64 (a:Int)))(hB:B<=w.heap.size):
  Calls Tryz.prog 168 #[.func (.func 169) #[] #[.pointer (some ⟨gk,0,none⟩),.pointer (some ⟨ga,0,none⟩)],.pointer (some ⟨g5,0,none⟩),.pointer (some ⟨g7,0,none⟩)] w (BS B X w (.slice (some ⟨g,0,none⟩) n c) (cF l a k)):=by
 have C:=wD w B g n c gk ga a k X l F hn M A G O N E D hB;have I:=zh C;clear C F E D G hn;go_enter Tryz.func168,Tryz.ntmps168;go_wp2_with fail;refine I.mono ?_;rintro e w1 ⟨rfl,H,A⟩;have Q:=A.cell L x7;have K:=zh H;have J:=zh A;clear H A;go_wp2_with fail;refine bodyPost_end (results_none rfl _ _ _) rfl ?_;exact⟨rfl,K.out,J.out⟩
theorem M4{C:World}{P M z:Int}{Mod:LI}(W:w.cell? ⟨g5,0,none⟩=some (.slice (some ⟨g,0,none⟩) n c))(T:w.cell? ⟨g7,0,none⟩=some (.slice none 0 0))(x7:X g7)
  (H:GF C A P M Mod)(I:Below C.heap.size C w)(U:C.heap.size<=B)
  (K:OM B X w (.slice (some ⟨g,0,none⟩) n c) l)(hn:l.length=n)(V:a<n)(J:∀g,X g->g<w.heap.size)
  (L:(l.getD a []).length<=100000)(O:∀k,I64 ((l.getD a []).getD k 0))
  (E:w.cell? ⟨g4,0,none⟩=some (.pointer (some ⟨A,0,none⟩)))(G:w.cell? ⟨gi,0,none⟩=some (.int .i64 z))(F:w.cell? ⟨ga,0,none⟩=some (.int .i64 (a:Int)))(hB:B<=w.heap.size):
  Calls Tryz.prog 168 #[.func (.func 171) #[] #[.pointer (some ⟨g4,0,none⟩),.pointer (some ⟨gi,0,none⟩),.pointer (some ⟨ga,0,none⟩)],.pointer (some ⟨g5,0,none⟩),.pointer (some ⟨g7,0,none⟩)] w
   (BS B X w (.slice (some ⟨g,0,none⟩) n c) (l.set a (bR (aB P M Mod) z (l.getD a [])))):=by
 have Q:=zh (zS C w B A g n c g4 gi ga a P M z Mod X l H I U K hn V J L O E G F hB);clear K E G F hn H I J L O;go_enter Tryz.func168,Tryz.ntmps168;go_wp2_with fail;refine Q.mono ?_;rintro e w1 ⟨rfl,N,D⟩;have Y:=D.cell T x7;have S:=zh N;have R:=zh D;clear N D;go_wp2_with fail;refine bodyPost_end (results_none rfl _ _ _) rfl ?_;exact⟨rfl,S.out,R.out⟩
theorem M6{C:World}{L:Nat}{P M x:Int}{Mod:LI}(h:w.cell? ⟨g5,0,none⟩=some (.slice (some ⟨g,0,none⟩) n c))(U:w.cell? ⟨g7,0,none⟩=some (.slice none 0 0))(x7:X g7)
  (I:GF C A P M Mod)(J:Below C.heap.size C w)(V:C.heap.size<=B)
  (N:OM B X w (.slice (some ⟨g,0,none⟩) n c) l)(hn:l.length=n)(hi:i<n)(Z:a<n)(O:i≠a)
  (K:∀j,j<n->(l.getD j []).length=L/\∀k,I64 ((l.getD j []).getD k 0))(W:0<L)(Y:L<=100000)(x4:X g4)(d:X gi)(f:X gx)(b:X ga)
  (E:w.cell? ⟨g4,0,none⟩=some (.pointer (some ⟨A,0,none⟩)))(G:w.cell? ⟨gi,0,none⟩=some (.int .i64 (i:Int)))(H:w.cell? ⟨gx,0,none⟩=some (.int .i64 x))(F:w.cell? ⟨ga,0,none⟩=some (.int .i64 (a:Int)))(hB:B<=w.heap.size):
  Calls Tryz.prog 168 #[.func (.func 173) #[] #[.pointer (some ⟨g4,0,none⟩),.pointer (some ⟨gi,0,none⟩),.pointer (some ⟨gx,0,none⟩),.pointer (some ⟨ga,0,none⟩)],.pointer (some ⟨g5,0,none⟩),.pointer (some ⟨g7,0,none⟩)] w
   (BS B X w (.slice (some ⟨g,0,none⟩) n c) (l.set i (cH (aB P M Mod) (l.getD i []) (fZ P M x) (l.getD a [])))):=by
 have R:=zh (zO C w B A g n c L g4 gi gx ga i a P M x Mod X l I J V N hn hi Z O K W Y x4 d f b E G H F hB);clear N E G H F hn I J K O;go_enter Tryz.func168,Tryz.ntmps168;go_wp2_with fail;refine R.mono ?_;rintro e w1 ⟨rfl,Q,D⟩;have m:=D.cell U x7;have T:=zh Q;have S:=zh D;clear Q D;go_wp2_with fail;refine bodyPost_end (results_none rfl _ _ _) rfl ?_;exact⟨rfl,T.out,S.out⟩
end
structure EM(w0 wr:World)(v u:Value)(l:LL)(piv:LI)(X:Nat->Prop)(A b4 b5 b7:Nat):Prop where
 om:OM w0.heap.size X wr v l
 xb:∀g,X g->g<wr.heap.size
 oi:OI w0.heap.size wr u piv
 xu:∀g,u.ownBlock=some g->X g
 nu:∀g,u.ownBlock=some g->g≠b4/\g≠b5/\g≠b7
 bel:Below w0.heap.size w0 wr
 x4:X b4
 x5:X b5
 x7:X b7
 k4:Blk wr b4 87 [.pointer (some ⟨A,0,none⟩)]
 k5:Blk wr b5 25 [v]
 k7:Blk wr b7 25 [.slice none 0 0]
section
variable {w0 wr w1:World} {v u:Value} {l l':LL} {piv:LI} {X:Nat->Prop} {A b4 b5 b7:Nat}
theorem EM.on(h:EM w0 wr v u l piv X A b4 b5 b7)(hb:Below wr.heap.size wr w1):EM w0 w1 v u l piv X A b4 b5 b7:=
 ⟨h.om.below hb,fun g hg=>aY1 (h.xb g hg) hb.size,h.oi.below hb zr,h.xu,h.nu,h.bel.trans (hb.mono h.bel.size),h.x4,h.x5,h.x7,h.k4.belowS hb,h.k5.belowS hb,h.k7.belowS hb⟩
theorem EM.kx(h:EM w0 wr v u l piv X A b4 b5 b7)(C:OM w0.heap.size X w1 v l')(B:KX w0.heap.size X wr w1):EM w0 w1 v u l' piv X A b4 b5 b7:=
 ⟨C,fun g hg=>aY1 (h.xb g hg) B.size,B.oi h.oi h.xu,h.xu,h.nu,h.bel.trans B.bel,h.x4,h.x5,h.x7,B.blk h.k4 h.x4,B.blk h.k5 h.x5,B.blk h.k7 h.x7⟩
theorem EM.box(h:EM w0 wr v u l piv X A b4 b5 b7)(o:Obj):EM w0 (wr.alloc o) v u l piv (fun g=>X g\/g=wr.heap.size) A b4 b5 b7:=by
 have B:=h.on (aF wr o);refine⟨h.om.names (fun g C hg=>hg.resolve_right (by omega))|>.below (aF wr o),fun g hg=>?_,B.oi,fun g hg=>.inl (h.xu g hg),h.nu,B.bel,.inl h.x4,.inl h.x5,.inl h.x7,B.k4,B.k5,B.k7⟩;rw[World.size_alloc];rcases hg with hg|hg
 .have:=h.xb g hg;omega
 .omega
theorem EM.name(h:EM w0 wr v u l piv X A b4 b5 b7)(hb:Below wr.heap.size wr w1){gi:Nat}(C:wr.heap.size<=gi)(E:gi<w1.heap.size):EM w0 w1 v u l piv (fun g=>X g\/g=gi) A b4 b5 b7:=by
 have B:=h.on hb;refine⟨(h.om.names (Y:=fun g=>X g\/g=gi) (fun g D hg=>hg.resolve_right (by omega))).below hb,fun g hg=>?_,B.oi,fun g hg=>.inl (h.xu g hg),h.nu,B.bel,.inl h.x4,.inl h.x5,.inl h.x7,B.k4,B.k5,B.k7⟩;rcases hg with hg|hg
 .exact B.xb g hg
 .omega
theorem EM.set(h:EM w0 wr v u l piv X A b4 b5 b7){b i:Nat}(F:X b)(hB:w0.heap.size<=b)(E:∀g,u.ownBlock=some g->g≠b)(B:b4≠b)(C:b5≠b)(D:b7≠b)(y:Value):EM w0 (wr.setCell ⟨b,i,none⟩ y) v u l piv X A b4 b5 b7:=
 ⟨h.om.grown (bF wr b i y) (fun g hg=>by cases hg;exact F),fun g hg=>by have:=h.xb g hg;simpa[World.setCell] using this,
  h.oi.grown (bF wr b i y) (fun g hg e=>E g hg (aZ0 e).symm),h.xu,h.nu,h.bel.setCell (p:=⟨b,i,none⟩) hB y,h.x4,h.x5,h.x7,h.k4.far (p:=⟨b,i,none⟩) B y,h.k5.far (p:=⟨b,i,none⟩) C y,h.k7.far (p:=⟨b,i,none⟩) D y⟩
theorem EM.push{v':Value}{y:Int}{o:Obj}(h:EM w0 wr v u l piv X A b4 b5 b7)(H:OI w0.heap.size w1 v' (piv++[y]))(hg:(wr.alloc o).grownBy w1 u.ownBlock)
  (C:v'.ownBlock=u.ownBlock\/v'.ownBlock=some (wr.alloc o).heap.size):EM w0 w1 v v' l (piv++[y]) (fun g=>X g\/v'.ownBlock=some g) A b4 b5 b7:=by
 have E:=h.on (aF wr o);have G:∀b,(b=b4\/b=b5\/b=b7)->some b≠u.ownBlock:=fun b hb e=>by have:=h.nu b e.symm;omega
 have F:∀b,X b->b<(wr.alloc o).heap.size:=E.xb;refine⟨?_,fun g D=>?_,H,fun g D=>.inr D,fun g D=>?_,E.bel.grown hg E.bel.size (fun k J=>(h.oi.lt J).1),.inl h.x4,.inl h.x5,.inl h.x7,E.k4.grown hg (G b4 (.inl rfl)),E.k5.grown hg (G b5 (.inr (.inl rfl))),E.k7.grown hg (G b7 (.inr (.inr rfl)))⟩
 .refine(E.om.names (Y:=fun g=>X g\/v'.ownBlock=some g) (fun g K B=>?_)).grown hg (fun I D=>.inl (h.xu I D));rcases B with B|B
  .exact B
  .rcases C with C|C
   .exact h.xu g (by rw[<-C];exact B)
   .rw[C] at B;have:=aZ0 B;omega
 .rcases D with B|B
  .exact aY1 (F g B) hg.size
  .exact(H.lt B).2
 .rcases C with C|C
  .exact h.nu g (by rw[<-C];exact D)
  .rw[C] at D;have e:=aZ0 D;have:=F _ h.x4;have:=F _ h.x5;have:=F _ h.x7;omega
end
def PW(w0:World)(v:Value)(l:LL)(piv:LI)(e:Ending)(w':World):Prop:=
 ∃u d,e=.returned (.tuple #[u,.int .i64 d])/\OM w0.heap.size (fun g=>g<w0.heap.size\/u.ownBlock=some g) w' v l/\OI w0.heap.size w' u piv/\Below w0.heap.size w0 w'
theorem NS (w0 w : World) (A : Nat) (P M : Int) (Mod : LI) (F : Int) (B : Option Addr) (c : Nat) (hO : OM w0.heap.size (fun g => g < w0.heap.size) w (.slice B 0 c) []) (hb : Below w0.heap.size w0 w) :
   Calls Tryz.prog 114 #[.pointer (some ⟨A,0,none⟩),.slice B 0 c,.int .i64 F,.slice none 0 0] w (PW w0 (.slice B 0 c) [] []):=by
 have H:=zh hO;have C:=zh hb;clear hO hb;have G:=aA (aA (aF w (.cells #[.pointer (some ⟨A,0,none⟩)] 87)) (aF _ (.cells #[.slice B 0 c] 25))) (aF _ (.cells #[.slice none 0 0] 25));have J:(((w.alloc (.cells #[.pointer (some ⟨A,0,none⟩)] 87)).alloc (.cells #[.slice B 0 c] 25)).alloc (.cells #[.slice none 0 0] 25)).cell? ⟨w.heap.size+1,0,none⟩=some (.slice B 0 c):=by have E:=Blk.new (w.alloc (.cells #[.pointer (some ⟨A,0,none⟩)] 87)) 25 [.slice B 0 c];rw[World.size_alloc] at E;exact(E.alloc (.cells #[.slice none 0 0] 25)).cell 0
 have D:=zh G;clear G;go_enter Tryz.func114,Tryz.ntmps114;go_wp2_with fail;generalize ((w.alloc (.cells #[.pointer (some ⟨A,0,none⟩)] 87)).alloc (.cells #[.slice B 0 c] 25)).alloc (.cells #[.slice none 0 0] 25)=w1 at*;go_wp2_with fail;go_loop [10,12,13] (fun d u c=>d=.int .i64 1/\u=.slice none 0 0/\c=.int .i64 0) (fun _ _ _=>0)
 case atStart=>exact⟨rfl,rfl,rfl⟩
 case round=>
   obtain⟨rfl,rfl,rfl⟩:=hrel;by_cases I:0<F
   all_goals
     go_wp2_with fail;go_ret2;exact⟨_,_,rfl,(H.below D).names (fun g _ h=>h.resolve_right (by simp[Value.ownBlock])),OI.nil _ _,C.trans (D.mono C.size)⟩
theorem K9{O:aO}{q:Int}(hO:O.Fld q){x:Int}(B:0<x)(A:x<q):O.inv x=1↔x=1:=by
 have h:=hO.mul_inv x B A;have hi:=hO.inv_lt x;constructor
 .intro e;rw[e,hO.mul_one x (by omega) A] at h;exact h
 .intro e;subst e;rwa[hO.one_mul hi.1 hi.2] at h
theorem JO (w0 w : World) (A : Nat) (P M : Int) (v L n g E : Nat) (Mod : LI) (rows : LL) (Cr : GF w0 A P M Mod) (Dq : OM w0.heap.size (fun g => g < w0.heap.size) w (.slice (some ⟨g, 0, none⟩) n E) rows)
   (hn:rows.length=n)(Gu:0<n)(hb:Below w0.heap.size w0 w)(hR:Rows (aC P M) L rows)(Gl:v<=L)(Dp:L<=100000)(Gs:n<=100000):
   Calls Tryz.prog 114 #[.pointer (some ⟨A,0,none⟩),.slice (some ⟨g,0,none⟩) n E,.int .i64 (v:Int),.slice none 0 0] w
     (PW w0 (.slice (some ⟨g,0,none⟩) n E) (aI (aB P M Mod) rows v).1 (aI (aB P M Mod) rows v).2):=by
 have Dv:=Cr.fld;have Bo:=Dv.1;have At:=zh (eW Bo Mod);have Bx:=zh (dU Dv);have Ec:=aK P M;have Ai:=zh Cr;clear Cr;obtain⟨O,hO⟩:∃O,O=aB P M Mod:=⟨_,rfl⟩
 rw[<-hO] at At Bx|-;have Cf:=zh hO;clear hO;obtain⟨q,hq⟩:∃q,q=aC P M:=⟨_,rfl⟩
 rw[<-hq] at At Bx hR Ec;have Ey:=zh hq;clear hq;obtain⟨Gv,Gw⟩:=Ec;have Ez:=zh hR;have Df:=zh hn;have Gg:=zh hb;have Fx:=hb.size
 have Bw:Hid (EM w0 (((w.alloc (.cells #[.pointer (some ⟨A,0,none⟩)] 87)).alloc (.cells #[.slice (some ⟨g,0,none⟩) n E] 25)).alloc (.cells #[.slice none 0 0] 25)) (.slice (some ⟨g,0,none⟩) n E) (.slice none 0 0) rows []
     (fun b=>((b<w0.heap.size\/b=w.heap.size)\/b=w.heap.size+1)\/b=w.heap.size+1+1) A w.heap.size (w.heap.size+1) (w.heap.size+1+1)):=by
   have Ef:(w.alloc (.cells #[.pointer (some ⟨A,0,none⟩)] 87)).heap.size=w.heap.size+1:=World.size_alloc _ _;have Eg:((w.alloc (.cells #[.pointer (some ⟨A,0,none⟩)] 87)).alloc (.cells #[.slice (some ⟨g,0,none⟩) n E] 25)).heap.size=w.heap.size+1+1:=by rw[World.size_alloc,Ef]
   have Fi:=Blk.new w 87 [.pointer (some ⟨A,0,none⟩)];have Dk:=Blk.new (w.alloc (.cells #[.pointer (some ⟨A,0,none⟩)] 87)) 25 [.slice (some ⟨g,0,none⟩) n E];have Dl:=Blk.new ((w.alloc (.cells #[.pointer (some ⟨A,0,none⟩)] 87)).alloc (.cells #[.slice (some ⟨g,0,none⟩) n E] 25)) 25 [.slice none 0 0];rw[Ef] at Dk;rw[Eg] at Dl;have Du:=aA (aA (aF w (.cells #[.pointer (some ⟨A,0,none⟩)] 87)) (aF _ (.cells #[.slice (some ⟨g,0,none⟩) n E] 25))) (aF _ (.cells #[.slice none 0 0] 25));refine⟨(Dq.names fun b Gr F=>?_).below Du,fun b F=>?_,OI.nil _ _,fun g hg=>by simp[Value.ownBlock] at hg,fun g hg=>by simp[Value.ownBlock] at hg,hb.trans (Du.mono Fx),.inl (.inl (.inr rfl)),.inl (.inr rfl),.inr rfl,(Fi.alloc _).alloc _,Dk.alloc _,Dl⟩
   . rcases F with((F|F)|F)|F
     . exact F
     . omega
     . omega
     . omega
   . rw[World.size_alloc,Eg];rcases F with((F|F)|F)|F<;>omega
 clear Dq hn hb hR;go_enter Tryz.func114,Tryz.ntmps114;go_wp2_with fail;generalize (((w.alloc (.cells #[.pointer (some ⟨A,0,none⟩)] 87)).alloc (.cells #[.slice (some ⟨g,0,none⟩) n E] 25)).alloc (.cells #[.slice none 0 0] 25))=w1 at*;generalize hX0:(fun b=>((b<w0.heap.size\/b=w.heap.size)\/b=w.heap.size+1)\/b=w.heap.size+1+1)=X0 at*;have Dh:Hid (∀b,b<w0.heap.size->X0 b):=aD fun b hb=>by rw[<-hX0];exact .inl (.inl (.inl hb))
 have Ej:Hid (w.heap.size≠w.heap.size+1):=aD (by omega);obtain⟨b4,Am⟩:∃b4,b4=w.heap.size:=⟨_,rfl⟩
 obtain⟨b5,Ds⟩:∃b5,b5=w.heap.size+1:=⟨_,rfl⟩
 obtain⟨b7,Dt⟩:∃b7,b7=w.heap.size+1+1:=⟨_,rfl⟩
 rw[<-Dt,<-Ds,<-Am] at Bw|-;have Gj:w0.heap.size<=b4/\w0.heap.size<=b5/\w0.heap.size<=b7:=by omega
 clear hX0 Am Ds Dt Ej;go_wp2_with fail;go_loopw [10,12,13] (fun d u x wr=>∃(c:Nat) (l:LL) (piv:LI) (X:Nat->Prop) (z:Int),c<=v/\x=.int .i64 (c:Int)/\d=.int .i64 z/\Hid (aI O rows c=(l,piv))/\Hid (∀b,b<w0.heap.size->X b)/\Hid (EM w0 wr (.slice (some ⟨g,0,none⟩) n E) u l piv X A b4 b5 b7)) (fun _ _ x _=>(v-intOf x).toNat)
 case atStart=>exact⟨0,rows,[],X0,1,aZ5 _,rfl,rfl,rfl,Dh,Bw⟩
 case round=>
   clear Bw Dh;obtain⟨c,l,piv,X,z,Gk,rfl,rfl,Ar,κ,C⟩:=hrel;have Bp:=lQ At.out Ez.out c Ar.out;have N:Hid (l.length=n):=by rw[<-Df.out];exact Bp.2.1
   have Cc:=zh Bp.1;have Gi:piv.length<=n:=by have:=Bp.2.2.1;rw[Df.out] at this;exact this
   clear Bp;obtain⟨Ag,Ah,rfl⟩:=C.oi.form';generalize ha:piv.length=a at*;have δ:=zh ha;clear ha;have Q:wr.cell? ⟨b5,0,none⟩=some (.slice (some ⟨g,0,none⟩) n E):=C.k5.cell 0;by_cases Gn:c<v
   case neg=>
     obtain rfl:v=c:=by omega
     go_wp2_with fail;go_ret2;rw[Ar.out];refine⟨_,_,rfl,C.om.names (fun b _ hb=>hb.elim (κ.out b) (C.xu b)),?_,C.bel⟩;rw[<-δ.out];have:=C.oi;rw[<-δ.out] at this;exact this
   by_cases Z:a<n
   case neg=>
     have En:Hid (aI O rows v=(l,piv)):=mU Ar.out (by rw[N.out,δ.out];exact Z) v (by omega);have Gt:n<=a:=by omega
     go_wp2_with fail;go_ret2;rw[En.out];exact⟨_,_,rfl,C.om.names (fun b _ hb=>hb.elim (κ.out b) (C.xu b)),C.oi,C.bel⟩
   have Gm:c<L:=by omega
   have Fr:=C.om.lt (g:=g) rfl;go_wp2_with fail;have As:Hid (EM w0 ((wr.alloc (.cells #[.int .i64 (a:Int)] 3)).alloc (.cells #[.int .i64 (a:Int)] 3)) (.slice (some ⟨g,0,none⟩) n E) (.slice Ag a Ah) l piv (fun b=>(X b\/b=wr.heap.size)\/b=wr.heap.size+1) A b4 b5 b7):=by have:=(C.box (.cells #[.int .i64 (a:Int)] 3)).box (.cells #[.int .i64 (a:Int)] 3);rw[World.size_alloc] at this;exact this
   have I:Hid (Blk ((wr.alloc (.cells #[.int .i64 (a:Int)] 3)).alloc (.cells #[.int .i64 (a:Int)] 3)) wr.heap.size 3 [.int .i64 (a:Int)]):=(Blk.new wr 3 [.int .i64 (a:Int)]).alloc _;have θ:Hid (Blk ((wr.alloc (.cells #[.int .i64 (a:Int)] 3)).alloc (.cells #[.int .i64 (a:Int)] 3)) (wr.heap.size+1) 3 [.int .i64 (a:Int)]):=by have:=Blk.new (wr.alloc (.cells #[.int .i64 (a:Int)] 3)) 3 [.int .i64 (a:Int)];rw[World.size_alloc] at this;exact this
   have Dg:Hid (∀b,(Value.slice Ag a Ah).ownBlock=some b->b<wr.heap.size):=aD fun b hb=>C.xb b (C.xu b hb);have Fg:Hid (∀b,X b->b<wr.heap.size):=aD C.xb;have Ft:=C.k4.lt;have Fu:=C.k5.lt;have Fv:=C.k7.lt;have Fw:=C.bel.size;generalize (wr.alloc (.cells #[.int .i64 (a:Int)] 3)).alloc (.cells #[.int .i64 (a:Int)] 3)=w2 at*;obtain⟨ga,Dw⟩:∃ga,ga=wr.heap.size:=⟨_,rfl⟩
   obtain⟨gk,Dx⟩:∃gk,gk=wr.heap.size+1:=⟨_,rfl⟩
   rw[<-Dx] at As θ|-;rw[<-Dw] at As I|-;have Fq:ga≠gk:=by omega
   obtain⟨f,Bc⟩:∃f:Nat->Prop,f=fun b=>(X b\/b=ga)\/b=gk:=⟨_,rfl⟩
   rw[<-Bc] at As;have Cj:Hid (∀b,b<w0.heap.size->f b):=aD fun b hb=>by rw[Bc];exact .inl (.inl (κ.out b hb))
   have Bm:Hid (f ga):=by show f ga;rw[Bc];exact .inl (.inr rfl)
   have Ci:Hid (f gk):=by show f gk;rw[Bc];exact .inr rfl
   have Fl:w0.heap.size<=gk:=by omega
   have Fb:Hid (∀b,(Value.slice Ag a Ah).ownBlock=some b->b≠gk):=aD fun b hb=>by have:=Dg.out b hb;omega
   have Fm:b4≠gk:=by omega
   have Fo:b5≠gk:=by omega
   have Fp:b7≠gk:=by omega
   clear C κ Bc Dw Dx Dg Fg Ft Fu Fv Fw Q Fr;go_loopw [] (fun wr=>∃k:Nat,a<=k/\k<=n/\Hid (dG l c n (n-a) a=dG l c n (n-k) k)/\Hid (EM w0 wr (.slice (some ⟨g,0,none⟩) n E) (.slice Ag a Ah) l piv f A b4 b5 b7)/\Hid (Blk wr ga 3 [.int .i64 (a:Int)])/\Hid (Blk wr gk 3 [.int .i64 (k:Int)])) (fun wr=>n-(intOf ((wr.cell? ⟨gk,0,none⟩).getD (.int .i64 0))).toNat)
   case atStart=>exact⟨a,Nat.le_refl _,by omega,rfl,As,I,θ⟩
   case round=>
     clear As I θ;obtain⟨k,Gh,Gq,Bz,C,I,θ⟩:=hrel;have Cq:wr.cell? ⟨gk,0,none⟩=some (.int .i64 (k:Int)):=θ.cell 0;have Fk:=θ.frozen 0;have Q:wr.cell? ⟨b5,0,none⟩=some (.slice (some ⟨g,0,none⟩) n E):=C.k5.cell 0;by_cases Be:k<n
     . obtain⟨Hc,t,s,_⟩:=C.om.row (k:=k) (by rw[N.out];exact Be);have V:=(Cc k (by rw[N.out];exact Be)).1;obtain⟨Gz,Bt,rfl,_,_⟩:=s.form (by rw[V];omega);have F:=s.cell c (by rw[V];omega);rw[V] at t;obtain⟨x,Cv⟩:∃x,x=(l.getD k []).getD c 0:=⟨_,rfl⟩
       rw[<-Cv] at F;have Av:=zh Cv;clear Cv s V;by_cases Bq:x=0
       . subst Bq;have Dc:=zh (θ.set_ 0 (.int .i64 ((k:Int)+1)));have Ep:=zh (C.set (i:=0) Ci.out Fl Fb.out Fm Fo Fp (.int .i64 ((k:Int)+1)));have El:=zh (I.far (p:=⟨gk,0,none⟩) Fq (.int .i64 ((k:Int)+1)));go_wp2_with fail;refine⟨⟨k+1,by omega,by omega,?_,Ep,El,by rw[show((k+1:Nat):Int)=(k:Int)+1 by push_cast;rfl];exact Dc⟩,?_⟩
         . show _=_;rw[Bz.out,show n-k=(n-(k+1))+1 by omega,dG,if_pos Av.out.symm]
         . have e:(wr.setCell ⟨gk,0,none⟩ (.int .i64 ((k:Int)+1))).cell? ⟨gk,0,none⟩=some (.int .i64 ((k:Int)+1)):=Dc.cell 0;rw[Cq,e];show n-((k:Int)+1).toNat<n-(k:Int).toNat
           omega
       . have Fy:(x==0)=false:=by rw[beq_eq_false_iff_ne];exact Bq
         have Bl:Hid (dG l c l.length (l.length-piv.length) piv.length=k):=by show _=_;rw[N.out,δ.out,Bz.out,show n-k=(n-(k+1))+1 by omega,dG,if_neg (by rw[<-Av.out];exact Bq)]
         have Dz:(((k:Nat):Int)==(n:Int))=false:=by rw[beq_eq_false_iff_ne];omega
         have Ce:Hid (aI O rows (c+1)=(iA O c l a k,piv++[(c:Int)])):=by show _=_;rw[iW Ar.out (by rw[N.out,δ.out];exact Z) Bl.out,if_neg (by rw[N.out];omega),δ.out]
         have Ax:Hid (0<x/\x<q):=by have h:=(Cc k (by rw[N.out];exact Be)).2 c;rw[<-Av.out] at h;exact⟨by omega,h.2⟩
         have ν:wr.cell? ⟨ga,0,none⟩=some (.int .i64 (a:Int)):=I.cell 0;have Dm:wr.cell? ⟨b7,0,none⟩=some (.slice none 0 0):=C.k7.cell 0;have ω:=zh Q;have Aa:=zh Dm;have Ap:=zh ν;have Cy:=zh Cq;clear Bq Bl
         go_upto_if 58 with(fail)
         go_cut [10] from 21 to 122 (fun d wc=>∃Bu,d=.int .i64 Bu/\Hid (EM w0 wc (.slice (some ⟨g,0,none⟩) n E) (.slice Ag a Ah) (cF l a k) piv f A b4 b5 b7)/\Hid (Blk wc ga 3 [.int .i64 (a:Int)]))
         case first=>
           by_cases Dy:k=a
           . subst Dy;have Bg:(((k:Nat):Int) !=(k:Int))=false:=by simp
             go_wp2_with fail;go_meet
             case rel=>exact⟨z,rfl,by rw[DH];exact C,I⟩
           . have Bg:(((k:Nat):Int) !=(a:Int))=true:=by rw[bne_iff_ne];omega
             go_wp2_with fail;refine(M2 (X:=f) (B:=w0.heap.size) ω Aa C.x7 C.om N Z Be (fun e=>Dy e.symm) Ci Bm Cy Ap C.bel.size).mono ?_;rintro e R ⟨rfl,Eb,Cu⟩;have G:=zh (C.kx Eb Cu);have ε:=zh (Cu.blk I Bm);have Ay:R.cell? ⟨b4,0,none⟩=some (.pointer (some ⟨A,0,none⟩)):=G.k4.cell 0;clear Eb Cu;go_wp2_with fail;refine(nZ _ A P M z Mod (Ai.below G.bel zr)).mono ?_;rintro e Hf ⟨rfl,Am⟩;have T:=zh (G.on Am);have Aj:=zh (ε.belowS Am);clear Am Ay;go_wp2_with fail;go_meet
             case rel=>exact⟨_,rfl,T,Aj⟩
         case rest=>
           clear C I θ Cq Fk Q t F Fy Dz ν Dm ω Aa Ap Cy;obtain⟨Bu,rfl,C,I⟩:=hcut;have ι:Hid ((cF l a k).length=n):=by show _=_;rw[eH,N.out]
           have Au:=zh (Cc.swap (a:=a) (b:=k) (by rw[N.out];exact Z) (by rw[N.out];exact Be));have Ak:Hid (((cF l a k).getD a []).getD c 0=x):=by
             show _=_;rw[Av.out];unfold cF;by_cases e:a=k
             . subst e;rw[cE,aZ9,if_pos ⟨rfl,by rw[N.out];exact Z⟩]
             . rw[cE,aZ9,if_neg (fun h=>e h.1.symm),cE,if_pos ⟨rfl,by rw[N.out];exact Z⟩]
           have Ch:Hid (iA O c l a k=aU O c a (cP O c a (cF l a k)) n):=by show _=_;unfold iA;rw[N.out]
           obtain⟨π,Ea⟩:∃π,π=cF l a k:=⟨_,rfl⟩
           rw[<-Ea] at C ι Au Ak Ch;clear Ea Av;obtain⟨Ha,t,s,_⟩:=C.om.row (k:=a) (by rw[ι.out];exact Z);have V:=(Au.out a (by rw[ι.out];exact Z)).1;obtain⟨Bs,Bt,rfl,_,_⟩:=s.form (by rw[V];omega);have F:=s.cell c (by rw[V];omega);rw[Ak.out] at F;rw[V] at t;have Ay:wc.cell? ⟨b4,0,none⟩=some (.pointer (some ⟨A,0,none⟩)):=C.k4.cell 0;have Q:wc.cell? ⟨b5,0,none⟩=some (.slice (some ⟨g,0,none⟩) n E):=C.k5.cell 0;have ν:wc.cell? ⟨ga,0,none⟩=some (.int .i64 (a:Int)):=I.cell 0;clear s V;go_wp2_with fail;refine aG.start (S:=fun w'=>w'.cell? ⟨b4,0,none⟩=some (.pointer (some ⟨A,0,none⟩))/\w'.cell? ⟨b5,0,none⟩=some (.slice (some ⟨g,0,none⟩) n E)/\w'.cell? ⟨ga,0,none⟩=some (.int .i64 (a:Int))/\w'.cell? ⟨g,a,none⟩=some (.slice (some ⟨Bs,0,none⟩) L Bt)/\w'.cell? ⟨Bs,c,none⟩=some (.int .i64 x)) (by kernel_rfl) (⟨Ay,Q,ν,t,F⟩) (fun H=>?_);change aG _ _ _ _ 11 _ _ _;refine tq 0 ?_;refine tq 1 ?_;refine tq 2 ?_;refine tq 3 ?_;refine tq 4 ?_;refine tq 5 ?_;refine tq 6 ?_;refine tq 7 ?_;refine tq 8 ?_;try simp only[tz]
           refine aG.only (i:=9) (by kernel_rfl) rfl (fun K hK=>?_);go_simp;refine(mH _ A P M Bu x Mod (Ai.below (C.bel.trans ((aH wc).mono C.bel.size)) zr)).mono ?_;rintro e R ⟨rfl,Dr⟩;have ζ:=zh (aA (aH wc) Dr);have G:=zh (C.on ζ);have ε:=zh (I.belowS ζ);have Az:=aE ζ.out Ay;have Ab:=aE ζ.out Q;have Ba:=aE ζ.out ν;have Ac:=aE ζ.out t;have Ad:=aE ζ.out F;clear Dr;refine hK.out _ _ (⟨Az,Ab,Ba,Ac,Ad⟩) ?_;clear hK K H;intro H;try simp only[tz]
           refine aG.only (i:=10) (by kernel_rfl) rfl (fun K hK=>?_);go_simp;refine hK.out _ _ H (fun Bb=>?_);clear hK K;clear Bb;refine aG.done (by kernel_rfl) ?_;try simp only[tz]
           clear H;generalize bO P M Mod Bu x=Gf;clear C I Ay Q ν t F ζ;go_upto_region 16 with fail;have ρ:=zh Az;have σ:=zh Ab;have τ:=zh Ba;have φ:=zh Ac;have χ:=zh Ad;have Da:Hid (inQ (aC P M) x≠0):=by show _≠_;unfold inQ;rw[<-Ey.out,if_pos ⟨by have:=Ax.out.1;omega,Ax.out.2⟩];have:=Ax.1;omega
           go_cut [16,17] from 21 to 122 (fun Fz Ga Ei=>∃gi,Fz=.pointer (some ⟨gi,0,none⟩)/\Ga=.int .i64 0/\R.heap.size<=gi/\Hid (Blk Ei gi 3 [.int .i64 (fJ P M Mod x)])/\Hid (Below R.heap.size R Ei))
           case first=>
             refine aG.start (S:=fun w'=>w'.cell? ⟨b4,0,none⟩=some (.pointer (some ⟨A,0,none⟩))/\w'.cell? ⟨b5,0,none⟩=some (.slice (some ⟨g,0,none⟩) n E)/\w'.cell? ⟨ga,0,none⟩=some (.int .i64 (a:Int))/\w'.cell? ⟨g,a,none⟩=some (.slice (some ⟨Bs,0,none⟩) L Bt)/\w'.cell? ⟨Bs,c,none⟩=some (.int .i64 x)) (by kernel_rfl) (⟨Az,Ab,Ba,Ac,Ad⟩) (fun H=>?_);change aG _ _ _ _ 15 _ _ _;have Cs:=aH R;generalize R.drew=Gb at Cs H|-;have D:=zh Cs;clear Az Ab Ba Ac Ad;clear Cs;refine tq 0 ?_;refine tq 1 ?_;refine tq 2 ?_;refine tq 3 ?_;refine tq 4 ?_;refine tq 5 ?_;refine tq 6 ?_;refine tq 7 ?_;try simp only[tz]
             refine aG.two (i:=8) (j:=12) (oi:=?opa2) (oj:=?opb2) (by kernel_rfl) ?hoa2 ?hob2 (fun K hK=>?way12) (fun K hK=>?way22)
             case hoa2=>(conv=>lhs;simp only[tdg,tdh,tdi])
             case hob2=>(conv=>lhs;simp only[tdg,tdh,tdi])
             case way12=>
               go_simp;refine(mG _ A P M x Mod (Ai.below (G.bel.trans (D.mono G.bel.size)) zr) Da).mono ?_;rintro e Gd ⟨rfl,hb⟩;replace D:=zh (aA D hb);clear hb;refine hK.out _ _ (⟨cb D ρ,cb D σ,cb D τ,cb D φ,cb D χ⟩) ?_;clear hK K H;intro H;try simp only[tz]
               refine tq 9 ?_;refine tq 10 ?_;refine tq 11 ?_;try simp only[tz]
               refine aG.only (i:=12) (o:=?op4) (by kernel_rfl) ?ho4 (fun K hK=>?_)
               case ho4=>(conv=>lhs;simp only[tdg,tdh,tdi])
               go_simp;obtain⟨Ge,gi,m,r,U,hb⟩:=bB Gd 3 [.int .i64 0];rw[m,r];have W:=zh U;have ξ:R.heap.size<=gi:=(by have:=D.size;omega)
               replace D:=zh (aA D hb);clear m r U hb;refine hK.out _ _ (⟨cb D ρ,cb D σ,cb D τ,cb D φ,cb D χ⟩) ?_;clear hK K H;intro H;try simp only[tz]
               refine aG.only (i:=13) (o:=?op6) (by kernel_rfl) ?ho6 (fun K hK=>?_)
               case ho6=>(conv=>lhs;simp only[tdg,tdh,tdi])
               have Cm:=W.cell 0;have Co:=W.frozen 0;go_simp;have ψ:=zh (W.set_ 0 (.int .i64 (fJ P M Mod x)));replace D:=zh (D.setCell (p:=⟨gi,0,none⟩) ξ (.int .i64 (fJ P M Mod x)));generalize Ge.setCell ⟨gi,0,none⟩ (.int .i64 (fJ P M Mod x))=Hh at*;clear Cm Co W;refine hK.out _ _ (⟨cb D ρ,cb D σ,cb D τ,cb D φ,cb D χ⟩) ?_;clear hK K H;intro H;try simp only[tz]
               refine aG.only (i:=14) (by kernel_rfl) rfl (fun K hK=>?_);go_simp;refine hK.out _ _ H (fun Bb=>?_);clear hK K;clear Bb;refine aG.done (by kernel_rfl) ?_;try simp only[tz]
               clear H;go_wp2_with fail;go_meet;exact⟨gi,rfl,rfl,ξ,ψ,D⟩
             case way22=>
               go_simp;obtain⟨Hi,gi,m,r,U,hb⟩:=bB Gb 3 [.int .i64 0];rw[m,r];have W:=zh U;have ξ:R.heap.size<=gi:=(by have:=D.size;omega)
               replace D:=zh (aA D hb);clear m r U hb;refine hK.out _ _ (⟨cb D ρ,cb D σ,cb D τ,cb D φ,cb D χ⟩) ?_;clear hK K H;intro H;try simp only[tz]
               refine aG.only (i:=8) (o:=?op9) (by kernel_rfl) ?ho9 (fun K hK=>?_)
               case ho9=>(conv=>lhs;simp only[tdg,tdh,tdi])
               go_simp;refine(mG _ A P M x Mod (Ai.below (G.bel.trans (D.mono G.bel.size)) zr) Da).mono ?_;rintro e Gc ⟨rfl,hb⟩;replace W:=zh (W.belowS hb);replace D:=zh (aA D hb);clear hb;refine hK.out _ _ (⟨cb D ρ,cb D σ,cb D τ,cb D φ,cb D χ⟩) ?_;clear hK K H;intro H;try simp only[tz]
               refine tq 9 ?_;refine tq 10 ?_;refine tq 11 ?_;try simp only[tz]
               refine aG.only (i:=13) (o:=?op11) (by kernel_rfl) ?ho11 (fun K hK=>?_)
               case ho11=>(conv=>lhs;simp only[tdg,tdh,tdi])
               have Cm:=W.cell 0;have Co:=W.frozen 0;go_simp;have ψ:=zh (W.set_ 0 (.int .i64 (fJ P M Mod x)));replace D:=zh (D.setCell (p:=⟨gi,0,none⟩) ξ (.int .i64 (fJ P M Mod x)));generalize Gc.setCell ⟨gi,0,none⟩ (.int .i64 (fJ P M Mod x))=Hg at*;clear Cm Co W;refine hK.out _ _ (⟨cb D ρ,cb D σ,cb D τ,cb D φ,cb D χ⟩) ?_;clear hK K H;intro H;try simp only[tz]
               refine aG.only (i:=14) (by kernel_rfl) rfl (fun K hK=>?_);go_simp;refine hK.out _ _ H (fun Bb=>?_);clear hK K;clear Bb;refine aG.done (by kernel_rfl) ?_;try simp only[tz]
               clear H;go_wp2_with fail;go_meet;exact⟨gi,rfl,rfl,ξ,ψ,D⟩
           case rest=>
             clear Az Ab Ba Ac Ad;obtain⟨gi,rfl,rfl,ξ,ψ,D⟩:=hcut;have T:=zh (G.name D ξ ψ.lt);have Aj:=zh (ε.belowS D);obtain⟨μ,Bn⟩:∃μ:Nat->Prop,μ=fun b=>f b\/b=gi:=⟨_,rfl⟩
             rw[<-Bn] at T;have Di:Hid (∀b,b<w0.heap.size->μ b):=aD fun b hb=>by rw[Bn];exact .inl (Cj.out b hb)
             have Ck:Hid (μ ga):=by show μ ga;rw[Bn];exact .inl Bm.out
             clear Bn ξ G ε ρ σ τ φ χ D Cj Bm Ci;have Do:fJ P M Mod x=O.inv x:=by rw[Cf.out];rfl
             have Bk:=zh Do;clear Do;have By:Hid (O.inv x=1↔x=1):=K9 Bx.out Ax.1 Ax.2;obtain⟨J,Bf⟩:∃J,J=cP O c a π:=⟨_,rfl⟩
             have Cb:=zh Bf;have De:Hid (J.length=n):=by show _=_;rw[Bf,jV,ι.out]
             have Eu:Hid (Rows q L J):=by rw[Bf];exact Rows.monic At.out Au.out c (by rw[ι.out];exact Z)
             rw[<-Bf] at Ch;clear Bf;have Dn:wc.cell? ⟨gi,0,none⟩=some (.int .i64 (fJ P M Mod x)):=ψ.cell 0;have Cx:=zh Dn;have Q:wc.cell? ⟨b5,0,none⟩=some (.slice (some ⟨g,0,none⟩) n E):=T.k5.cell 0;have ω:=zh Q;have Aa:Hid (wc.cell? ⟨b7,0,none⟩=some (.slice none 0 0)):=T.k7.cell 0;have Bi:Hid (wc.cell? ⟨b4,0,none⟩=some (.pointer (some ⟨A,0,none⟩))):=T.k4.cell 0;have Ap:Hid (wc.cell? ⟨ga,0,none⟩=some (.int .i64 (a:Int))):=Aj.cell 0
             go_upto_if 92 with(fail)
             go_cut [] from 21 to 122 (fun wc=>Hid (EM w0 wc (.slice (some ⟨g,0,none⟩) n E) (.slice Ag a Ah) J piv μ A b4 b5 b7)/\Hid (Blk wc ga 3 [.int .i64 (a:Int)]))
             case first=>
               by_cases An:x=1
               . have Bg:(fJ P M Mod x !=1)=false:=by rw[Bk.out,bne_eq_false_iff_eq];exact By.2 An
                 have Cd:Hid (J=π):=by show _=_;rw[Cb.out];unfold cP;rw[if_neg (by rw[Ak.out];simpa using An)]
                 clear An;go_wp2_with fail;go_meet
                 case rel=>exact⟨by rw[Cd.out];exact T,Aj⟩
               . have Bg:(fJ P M Mod x !=1)=true:=by rw[Bk.out,bne_iff_ne];exact fun e=>An (By.1 e)
                 have Cd:Hid (J=π.set a (bR (aB P M Mod) (fJ P M Mod x) (π.getD a []))):=by show _=_;rw[Cb.out];unfold cP;rw[if_pos (by rw[Ak.out];exact An),Ak.out,Bk.out,Cf.out]
                 have Dd:Hid ((π.getD a []).length<=100000/\∀k,I64 ((π.getD a []).getD k 0)):=by have h:=Au.out a (by rw[ι.out];exact Z);exact⟨by rw[h.1];exact Dp,fun j=>by have:=h.2 j;exact I64.of_small (by omega) (by omega)⟩
                 clear An;go_wp2_with fail;refine(M4 (X:=μ) (B:=w0.heap.size) ω Aa T.x7 Ai T.bel zr T.om ι Z T.xb Dd.1 Dd.2 Bi Cx Ap T.bel.size).mono ?_;rintro e Eh ⟨rfl,Bh,Af⟩;have Bj:=zh (T.kx Bh Af);have Ca:=zh (Af.blk Aj Ck);rw[<-Cd.out] at Bj;clear Bh Af;go_wp2_with fail;go_meet
                 case rel=>exact⟨Bj,Ca⟩
             case rest=>
               clear T Aj ψ Dn Q ω Aa Bi Ap Cx Ak Au ι Cb By Bk;obtain⟨C,I⟩:=hcut;have Q:wc.cell? ⟨b5,0,none⟩=some (.slice (some ⟨g,0,none⟩) n E):=C.k5.cell 0;go_wp2_with fail;clear Q;go_loopw [98] (fun x wr=>∃(i:Nat) (X:Nat->Prop),i<=n/\x=.int .i64 (i:Int)/\Hid (∀b,b<w0.heap.size->X b)/\Hid (X ga)/\Hid (EM w0 wr (.slice (some ⟨g,0,none⟩) n E) (.slice Ag a Ah) (aU O c a J i) piv X A b4 b5 b7)/\Hid (Blk wr ga 3 [.int .i64 (a:Int)])) (fun x _=>(n-intOf x).toNat)
               case atStart=>exact⟨0,μ,aZ5 _,rfl,Di,Ck,C,I⟩
               case round=>
                 clear C I Di Ck;obtain⟨i,X,hi,rfl,κ,Dj,C,I⟩:=hrel;by_cases Ct:i<n
                 . have Aq:Hid ((aU O c a J i).length=n):=by show _=_;rw[fW,De.out]
                   have Bv:=zh (Rows.clear At Eu c a i (by rw[De.out];exact hi));have η:Hid (aU O c a J (i+1)=if i≠a/\((aU O c a J i).getD i []).getD c 0≠0 then(aU O c a J i).set i (cH O ((aU O c a J i).getD i []) (O.neg (((aU O c a J i).getD i []).getD c 0)) ((aU O c a J i).getD a [])) else aU O c a J i):=rfl;generalize aU O c a J i=Ao at C Aq Bv η;obtain⟨Hb,t,s,_⟩:=C.om.row (k:=i) (by rw[Aq.out];exact Ct);have V:=(Bv.out i (by rw[Aq.out];exact Ct)).1;obtain⟨Gy,Bt,rfl,_,_⟩:=s.form (by rw[V];omega);have F:=s.cell c (by rw[V];omega);rw[V] at t;obtain⟨y,Ee⟩:∃y,y=(Ao.getD i []).getD c 0:=⟨_,rfl⟩
                   rw[<-Ee] at F η;clear s V Ee;have Q:wr.cell? ⟨b5,0,none⟩=some (.slice (some ⟨g,0,none⟩) n E):=C.k5.cell 0;have ν:wr.cell? ⟨ga,0,none⟩=some (.int .i64 (a:Int)):=I.cell 0;go_upto_region 22 with fail;obtain⟨w2,Ae,m,r,U,hb⟩:=bB wr 3 [.int .i64 (i:Int)];rw[m,r];have Cw:=zh U;have Cz:=zh (C.name hb (gi:=Ae) (by omega) U.lt);have Db:=zh (I.belowS hb);have Ab:=aE hb Q;have Ac:=aE hb t;have Ad:=aE hb F;have Gp:w0.heap.size<=Ae:=by have:=C.bel.size;omega
                   have Cp:w2.cell? ⟨Ae,0,none⟩=some (.int .i64 (i:Int)):=U.cell 0;clear C I Q ν t F m r U hb;go_upto_region 23 with fail;obtain⟨R,gx,m,r,U,hb⟩:=bB w2 3 [.int .i64 y];rw[m,r];have W:=zh U;have G:=zh (Cz.name hb (gi:=gx) (by omega) U.lt);have ε:=zh (Db.belowS hb);have Em:=zh (Cw.belowS hb);clear Cz Db Cw Ab Ac Ad Cp m r U hb;obtain⟨Y,Al⟩:∃Y:Nat->Prop,Y=fun b=>(X b\/b=Ae)\/b=gx:=⟨_,rfl⟩
                   rw[<-Al] at G;have Cl:Hid (∀b,b<w0.heap.size->Y b):=aD fun b hb=>by rw[Al];exact .inl (.inl (κ.out b hb))
                   have Aw:Hid (Y ga):=by show Y ga;rw[Al];exact .inl (.inl Dj)
                   have Fe:Hid (Y Ae):=by show Y Ae;rw[Al];exact .inl (.inr rfl)
                   have Ff:Hid (Y gx):=by show Y gx;rw[Al];exact .inr rfl
                   clear Al κ Dj;have Cp:R.cell? ⟨Ae,0,none⟩=some (.int .i64 (i:Int)):=Em.cell 0;have Fj:R.cell? ⟨gx,0,none⟩=some (.int .i64 y):=W.cell 0;have ba:R.cell? ⟨ga,0,none⟩=some (.int .i64 (a:Int)):=ε.cell 0;have ω:Hid (R.cell? ⟨b5,0,none⟩=some (.slice (some ⟨g,0,none⟩) n E)):=G.k5.cell 0;have Aa:Hid (R.cell? ⟨b7,0,none⟩=some (.slice none 0 0)):=G.k7.cell 0;have Bi:Hid (R.cell? ⟨b4,0,none⟩=some (.pointer (some ⟨A,0,none⟩))):=G.k4.cell 0;have Er:=zh Cp;have Fh:=zh Fj;have Ek:=zh ba;by_cases Bd:i=a
                   . subst Bd;have Bg:(((i:Nat):Int) !=(i:Int))=false:=by simp
                     rw[if_neg (fun h=>h.1 rfl)] at η;go_wp2_with fail;exact⟨⟨i+1,Y,by omega,by push_cast;rfl,Cl,Aw,by rw[η.out];exact G,ε⟩,by simp only[intOf];omega⟩
                   . have Bg:(((i:Nat):Int) !=(a:Int))=true:=by rw[bne_iff_ne];omega
                     by_cases Br:y=0
                     . subst Br;rw[if_neg (fun h=>h.2 rfl)] at η;clear Bd;go_wp2_with fail;exact⟨⟨i+1,Y,by omega,by push_cast;rfl,Cl,Aw,by rw[η.out];exact G,ε⟩,by simp only[intOf];omega⟩
                     . have Gx:(y !=0)=true:=by simpa using Br
                       rw[if_pos ⟨Bd,Br⟩] at η;have Es:=zh Bd;have Et:Hid (∀j,j<n->(Ao.getD j []).length=L/\∀k,I64 ((Ao.getD j []).getD k 0)):=aD fun j Fs=>by have h:=Bv.out j (by rw[Aq.out];exact Fs);exact⟨h.1,fun k=>by have:=h.2 k;exact I64.of_small (by omega) (by omega)⟩
                       clear Bd Br;go_wp2_with fail;refine(M6 (X:=Y) (B:=w0.heap.size) (L:=L) (P:=P) (M:=M) (Mod:=Mod) ω Aa G.x7 Ai G.bel zr G.om Aq Ct Z Es Et (by omega) Dp G.x4 Fe Ff Aw Bi Er Fh Ek G.bel.size).mono ?_;rintro e Eh ⟨rfl,Bh,Af⟩;have Bj:=zh (G.kx Bh Af);have Ca:=zh (Af.blk ε Aw);have Ev:Hid (aU O c a J (i+1)=Ao.set i (cH (aB P M Mod) (Ao.getD i []) (fZ P M y) (Ao.getD a []))):=by show _=_;rw[η.out,Cf.out];rfl
                       clear Bh Af;go_wp2_with fail;exact⟨⟨i+1,Y,by omega,by push_cast;rfl,Cl,Aw,by rw[Ev.out];exact Bj,Ca⟩,by simp only[intOf];omega⟩
                 . obtain rfl:n=i:=by omega
                   rw[<-Ch.out] at C;have Ex:Hid (piv.length+[(c:Int)].length<=17592186044416):=by show _<=_;rw[δ.out,aZ2];omega
                   have Ew:=zh (C.oi.alloc (.cells #[.int .i64 (c:Int)] 3));have Fa:Hid (SI (wr.alloc (.cells #[.int .i64 (c:Int)] 3)) (.slice (some ⟨wr.heap.size,0,none⟩) 1 1) [(c:Int)]):=SI.lit wr [(c:Int)] (by simp) (fun j=>by
                     rcases j with _|j
                     . exact I64.of_small (by show _<=(c:Int);omega) (by show(c:Int)<=_;omega)
                     . exact I64.zero)
                   have Fc:Hid (w0.heap.size<=(wr.alloc (.cells #[.int .i64 (c:Int)] 3)).heap.size):=fM C.bel.size _;go_wp2_with (at_builtin;go_must (refine dW rfl _ _ rfl w0.heap.size _ piv rfl Ew _ [(c:Int)] rfl Fa Ex Fc ?_);(intro He Eh Bo hg Ed);have Eo:=zh (C.push Bo hg Ed);clear Bo hg Ed)
                   exact⟨⟨c+1,_,_,_,Gf,by omega,by push_cast;rfl,rfl,Ce.out,aD (fun b hb=>.inl (κ.out b hb)),Eo⟩,by simp only[intOf];omega⟩
     . obtain rfl:n=k:=by omega
       have Bl:Hid (dG l c l.length (l.length-piv.length) piv.length=n):=by show _=_;rw[N.out,δ.out,Bz.out,Nat.sub_self,dG]
       have Dz:(((n:Nat):Int)==(n:Int))=true:=by simp
       have Ce:Hid (aI O rows (c+1)=(l,piv)):=by show _=_;rw[iW Ar.out (by rw[N.out,δ.out];exact Z) Bl.out,if_pos N.out.symm]
       go_wp2_with fail;exact⟨⟨c+1,l,piv,f,z,by omega,by push_cast;rfl,rfl,Ce,Cj,C⟩,by simp only[intOf];omega⟩
end Go.Proofs.YtpfhoemohibniaaGreatDoor
