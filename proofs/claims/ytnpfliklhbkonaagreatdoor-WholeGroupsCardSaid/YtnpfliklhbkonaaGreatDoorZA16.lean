/- Parts. -/
import Derived.Test.YtnpfliklhbkonaaGreatDoorZA11
import Derived.Defers
import Derived.Recover
set_option maxRecDepth 99999
set_option maxHeartbeats 0
set_option linter.unusedSimpArgs false
set_option linter.unusedVariables false
namespace Go.Proofs.YtnpfliklhbkonaaGreatDoor
open Go.Proofs.Tryz
open Go.RowKit
theorem MO(p q:Addr)(w:Wo):
 CallsD prog 32 #[.pointer (some p),.pointer (some q)] .returning w fun e u' w'=>e=.returned (.tuple #[])/\u'=.returning/\w'=w:=by
 refine callsD_of_wpS func32 rfl fun B cs C=>?_;have hq:∀A:Wo,(binOp .eql 20 .nilIface .nilIface).run prog A=.ok (.bool true) A:=fun A=>by kernel_rfl
 apply wpS_seq;apply wpS_region;simp[wpOpsS,go_sem,recoverD,C,ntmps32,Exit.thenS];refine wpS_of_wp ?_;refine wp_block ?_;refine wp_seq ?_;refine wp_region_list ?_;simp[wpList,go_sem,hq];refine .inl ?_;refine wp_cond_true (by simp[Act.eval]) ?_;refine wp_region_list ?_;simp[wpList,go_sem,Exit.inBlock];refine .inl ?_;cases B;simp_all [bodyPostS,results,results32]
def iZ(x:Nat):List Va:=[.int .i64 1,.string {data:=#[]},(x:aV),.slice none 0 0,.slice none 0 0]
def KB(x:Nat)(_:Wo)(cs:List Va):Prop:=cs=iZ x
def W0(nm:By)(m:Nat)(Φ:Nat->Wo->List Va->Prop)(w:Wo)(cs:List Va):Prop:=
 ∃A c,cs=XBk nm (.slice A m c)/\∃B:List (List Va),B=m/\RG 5 w (.slice A m c) B/\∀j,j<m->Φ j w (B j [])
def gfX:Wo->List Va->Prop:=W0 mY 1 fun _=>KB 2
def EK:Wo->List Va->Prop:=W0 fU 2 fun j=>if j=0 then gfX else KB 3
theorem XT(x:Nat):∀u∈iZ x,u.oneCell'=true:=by intro u A;simp[iZ] at A;rcases A with rfl|rfl|rfl|rfl|rfl<;>rfl
theorem OK(nm:By)(A:OA)(n c:Nat):∀u∈XBk nm (.slice A n c),u.oneCell'=true:=by intro u B;simp[XBk] at B;rcases B with rfl|rfl|rfl|rfl|rfl<;>rfl
theorem OQ{g:Nat}{lv:Va}{toks:List (List Va)}{i n k dep x at_:Nat}{tx:By}(hi:i<toks)(E:toks i []=fT 2 tx x at_)(A:dep<=32)(hk:k+1<=1000):OF g lv toks n (dep:Int) i (i+1) k (k+1) (KB x):=
 ⟨fun w h=>(WE w g lv toks i n k dep x at_ tx h hi E A hk).mono fun e w'⟨B,C,D⟩=>⟨_,_,_,_,_,B,XT x,C,D,fun w2 _=>rfl⟩⟩
theorem ka{g:Nat}{lv:Va}{n k:Nat}(hk:k<=10):OF g lv scT n ((2:Nat):Int) 2 6 k (k+2) gfX:=
 ⟨fun w h=>(E9 w g lv scT 2 n k 2 1 8 10 mY h dC rfl rfl dC om dC (fun j=>4+j) (fun j=>k+1+j) (fun _=>KB 2) rfl rfl (fun _=>⟨dC,2,rfl,rfl⟩) (fun j G B=>om)
  (fun j H=>by
   obtain rfl:j=0:=om;exact OQ (dep:=3) (x:=2) (at_:=11) (tx:=⟨#[50]⟩) dC rfl dC om) ⟨dC,12,rfl⟩).mono fun e w'⟨A,c,C,D,E,F⟩=>⟨_,_,_,_,_,C,OK mY A 1 c,D,E,fun w2 B=>⟨A,c,rfl,F w2 B⟩⟩⟩
theorem fj{g:Nat}{lv:Va}{n:Nat}:OF g lv scT n ((1:Nat):Int) 0 9 0 4 EK:=
 ⟨fun w h => (E9 w g lv scT 0 n 0 1 2 0 7 fU h dC rfl rfl dC om dC (fun j => [2, 6, 8].getD j 0) (fun j => [1, 3, 4].getD j 0) (fun j => if j = 0 then gfX else KB 3) rfl rfl (fun _ => ⟨dC, 1, rfl, rfl⟩) (fun j G B => by
  obtain rfl:j=1:=om;exact⟨dC,13,rfl⟩)
  (fun j H=>by
   rcases(by omega:j=0\/j=1) with rfl|rfl
   .exact ka dC
   .exact OQ (dep:=2) (x:=3) (at_:=15) (tx:=⟨#[51]⟩) dC rfl dC dC) ⟨dC,16,rfl⟩).mono fun e w'⟨A,c,C,D,E,F⟩=>⟨_,_,_,_,_,C,OK fU A 2 c,D,E,fun w2 B=>⟨A,c,rfl,F w2 B⟩⟩⟩
theorem rT(w:Wo)(B t2 t3:TypeId)(A C D:List Va):∃w0,((w.alloc (.cells A.toArray B)).alloc (.cells C.toArray t2)).alloc (.cells D.toArray t3)=w0/\Blk w0 w B A/\Blk w0 (w.heap.size+1) t2 C/\Blk w0 (w.heap.size+1+1) t3 D/\Below w w w0:=by
 have G:(w.alloc (.cells A.toArray B)).heap.size=w.heap.size+1:=by show(w.heap.push _).size=_;rw[Array.size_push]
 have I:((w.alloc (.cells A.toArray B)).alloc (.cells C.toArray t2)).heap.size=w.heap.size+1+1:=by show((w.alloc (.cells A.toArray B)).heap.push _).size=_;rw[Array.size_push,G]
 have H:=Blk.new w B A;have E:=Blk.new (w.alloc (.cells A.toArray B)) t2 C;have F:=Blk.new ((w.alloc (.cells A.toArray B)).alloc (.cells C.toArray t2)) t3 D;rw[G] at E;rw[I] at F;exact⟨_,rfl,(H.alloc _).alloc _,E.alloc _,F,aC (aC (aH _ _) (aH _ _)) (aH _ _)⟩
theorem S3(w:Wo):Calls prog 13 #[.string scS] w (fun e w'=>∃a b c d f,e=.returned (.tuple #[.agg #[a,b,c,d,f],.int .i64 0,.int .i64 0])/\Wnd w.heap.size w'.heap.size w' (fun w2=>EK w2 [a,b,c,d,f])/\Below w.heap.size w w'):=by
 obtain⟨s,i⟩:=xE scS;have Az:s.size=17:=by rw[i];rfl
 have o:=zh (fun Aj:Wo=>YS Aj);rw[<-i] at o|-;clear i
 go_enter_defers func13,ntmps13
 go_upto_region 2 with fail;obtain⟨w0,X,T,η,r,t⟩:=rT w 50 33 3 rC [.int .i64 0] [.int .i64 0];unfold rC at X T;rw[X];have F:=zh T;have D:=zh η;have C:=zh r;have E:=zh t;clear X T η r t;go_wp2_with fail;refine(o.out w0).mono ?_;rintro e w1 ⟨v,rfl,Z,R⟩;obtain⟨A,c,rfl⟩:=Z.form';have O:=zh Z;have ι:scT.length=9:=rfl;rw[ι] at O|-;replace F:=zh (F.belowS R);replace D:=zh (D.belowS R);replace C:=zh (C.belowS R);replace E:=zh (aC E R);clear Z R ι;go_upto_region 3 with fail;have V:=zh (Blk.new w1 86 [.slice A 9 c,.int .i64 0,.int .i64 17,.int .i64 0]);have N:=aH w1 (.cells [Value.slice A 9 c,.int .i64 0,.int .i64 17,.int .i64 0].toArray 86);have m:=zh (fun b (Ad:(Value.slice A 9 c).ownBlock=some b)=>(O.lt Ad).2);replace O:=zh (O.below N zr);have q:=zh F.lt;have l:=zh D.lt;have j:=zh C.lt;replace F:=zh (F.belowS N);replace D:=zh (D.belowS N);replace C:=zh (C.belowS N);replace E:=zh (aC E N);clear N;generalize w1.alloc (.cells #[.slice A 9 c,.int .i64 0,.int .i64 17,.int .i64 0] 86)=w2 at*;have n:Hid (PS w2 w1.heap.size (.slice A 9 c) scT 0 17 0):=aG ⟨V.out,O.rg,m.out,dC⟩;obtain⟨g,θ⟩:=xE w1.heap.size;rw[<-θ] at V n m q l j|-;have φ:Hid (Calls prog 34 #[.pointer g,.int .i64 1] w2 (fun e w'=>∃a b P d f,e=.returned (.agg #[a,b,P,d,f])/\(∀u∈[a,b,P,d,f],u.oneCell'=true)/\w2.grownBy w' (some g)/\PS w' g (.slice A 9 c) scT 9 17 4/\Wnd w2.heap.size w'.heap.size w' (fun H=>EK H [a,b,P,d,f]))):=aG (fj.run w2 n);clear θ;go_wp2_with fail;refine φ.mono ?_;rintro e H ⟨a,b,P,d,f,rfl,Af,S,κ,h⟩;have U:=zh κ;have W:=zh h;obtain⟨I,M,ζ,_⟩:=h H fun _ _ _=>rfl;obtain⟨rfl,rfl,rfl,rfl,rfl⟩:a=.int .i64 3/\b=.string fU/\P=.int .i64 0/\d=.slice none 0 0/\f=.slice I 2 M:=by simpa[XBk] using ζ
 have Ba:=q.out;have Aw:=l.out;have Av:=j.out;replace F:=zh (F.grown S (fun e=>by have:=aZ0 e;omega));replace D:=zh (D.grown S (fun e=>by have:=aZ0 e;omega));replace C:=zh (C.grown S (fun e=>by have:=aZ0 e;omega));replace E:=zh (E.grown S E.size (fun k e=>by have:=aZ0 e;omega));clear S κ h ζ Af;go_upto_region 4 with fail;have ψ:=zh (Blk.new H 50 [.int .i64 3,.string fU,.int .i64 0,.slice none 0 0,.slice I 2 M]);have G:=aH H (.cells [.int .i64 3,.string fU,.int .i64 0,.slice none 0 0,.slice I 2 M].toArray 50);replace F:=zh (F.belowS G);replace D:=zh (D.belowS G);replace C:=zh (C.belowS G);replace E:=zh (aC E G);replace U:=zh (U.grown (row:=none) (aP G none) (fun b e=>by cases e));have χ:Hid (H.heap.size<=(H.alloc (.cells [.int .i64 3,.string fU,.int .i64 0,.slice none 0 0,.slice I 2 M].toArray 50)).heap.size):=aG G.size;replace W:=zh (W.move fun p _ Y=>G.cell (p:=p) Y);clear G;generalize H.alloc (.cells #[.int .i64 3,.string fU,.int .i64 0,.slice none 0 0,.slice I 2 M] 50)=B at*;obtain⟨Bg,Bh,Bi,Bj,Bk,_,_,_,_,_⟩:=ψ.five;obtain⟨x0,x1,x2,x3,x4,Am,An,Ao,Ap,Aq⟩:=F.five;have Al:B.cell? ⟨w.heap.size+1,0,none⟩=some (.int .i64 0):=D.cell 0;have As:B.frozen? ⟨w.heap.size+1,0,none⟩=false:=D.frozen 0;have Ak:B.cell? ⟨w.heap.size+1+1,0,none⟩=some (.int .i64 0):=C.cell 0;have Ar:B.frozen? ⟨w.heap.size+1+1,0,none⟩=false:=C.frozen 0;have At:B.cell? g=some (.slice A 9 c):=U.blk.cell 0;have Au:B.cell? (g 1 none)=some (.int .i64 9):=U.blk.cell 1;go_wp2_with fail
 go_quiet (fail)
 go_wp2_with fail;obtain⟨Ai,Aa,J⟩:=zL (x:=.int .i64 3) (y:=.string fU) (z:=.int .i64 0) (u:=.slice none 0 0) (v:=.slice I 2 M) (F.belowS (aY B nq));rw[Aa];obtain⟨Be,Ab,K⟩:=lp (x:=.int .i64 0) ((D.belowS (aY B nq)).grown J.gr (fun e=>by have:=aZ0 e;omega));rw[Ab];obtain⟨Bf,Ac,L⟩:=lp (x:=.int .i64 0) (((C.belowS (aY B nq)).grown J.gr (fun e=>by have:=aZ0 e;omega)).grown K.gr (fun e=>by have:=aZ0 e;omega));rw[Ac];have Q:=(J.blk.grown K.gr (fun e=>by have:=aZ0 e;omega)).grown L.gr (fun e=>by have:=aZ0 e;omega);have μ:=Q.cell 0;have ν:=Q.cell 1;have ξ:=Q.cell 2;have π:=Q.cell 3;have ρ:=Q.cell 4;have τ:=(K.blk.grown L.gr (fun e=>by have:=aZ0 e;omega)).cell 0;have σ:=L.blk.cell 0;simp only[eE,eF] at μ ν ξ π ρ τ σ;refine leaves_cons (f:=32) (args:=#[.pointer (some ⟨w.heap.size+1,0,none⟩),.pointer (some ⟨w.heap.size+1+1,0,none⟩)]) sM (by simp[go_sem]) ?_;refine(MO _ _ _).mono ?_;rintro e u' Ah ⟨rfl,rfl,rfl⟩;simp[Leaves,settle,results,results13,go_sem,μ,ν,ξ,π,ρ,τ,σ];have Ax:=V.lt;have Ay:=χ.out;have δ:=J.below (aC E (aY B nq)) E.size zr;have ε:=K.below δ δ.size om;have Ae:=L.below ε ε.size om;have Bb:B.heap.size<=Ai.heap.size:=J.gr.size;have Bc:=K.gr.size;have Bd:=L.gr.size;refine⟨_,_,_,_,_,⟨rfl,rfl,rfl,rfl,rfl⟩,?_,Ae⟩;have Ag:=W.move (w':=Ah) fun p ω Y=>by rw[World.cell?_of_block (L.gr.block _ om (fun e=>by have:=aZ0 e;omega)),World.cell?_of_block (K.gr.block _ om (fun e=>by have:=aZ0 e;omega))];exact World.cell?_of_block (w:=B.drewN nq) (J.gr.block _ (by show _<B.heap.size;omega) (fun e=>by have:=aZ0 e;omega))
 exact fun x T=>Ag x fun p ω Y=>T p om om
theorem KC(w:Wo)(n:Nat)(h:n<=9999999):Calls prog 279 #[n] w (fun e w'=>e=.returned (.bool true)/\w=w'):=by have C:decide ((0:Int)<=(n:Int))=true:=dE om;have A:decide ((n:Int)<=9999999)=true:=dE om;have B:decide (n<=9999999)=true:=dE h;go_enter func279,ntmps279;go_wp2;go_ret;exact⟨by simp[A,B,h],rfl⟩
structure nB(s:By):Prop where
 ne:(s.toList==ByteArray.empty.toList)=false
 len:0<s.size/\s.size<=16
 fst:BX (bAt s 0)=true
 all:∀k,0<=k->k<s.size->vR (bAt s k)=true
theorem nB.ham:nB fU:=⟨by rw[ByteArray.toList_eq,ByteArray.toList_eq];decide,dC,dC,by
 have:∀k,k<7->vR (bAt fU k)=true:=by decide
 exact fun k _ h=>this k h⟩
theorem nB.gf:nB mY:=⟨by rw[ByteArray.toList_eq,ByteArray.toList_eq];decide,dC,dC,by
 have:∀k,k<2->vR (bAt mY k)=true:=by decide
 exact fun k _ h=>this k h⟩
theorem R9(w:Wo)(s:By)(h:nB s):Calls prog 280 #[.string s] w (fun e w'=>e=.returned (.bool true)/\w=w'):=by
 have A:(s.toList==(⟨#[]⟩:By).toList)=false:=h.ne;have N:(s.toList !=(⟨#[]⟩:By).toList)=true:=by rw[bne,A];rfl
 have O:s.toList.isEmpty=false:=by
  have:(⟨#[]⟩:By).toList=[]:=by rw[ByteArray.toList_eq]
  rw[this] at A;cases hs:s.toList with
  |nil=>rw[hs] at A;cases A
  |cons=>rfl
 have M:=h.len.1;have J:=h.len.2;have K:decide ((s.size:Int)<=16)=true:=dE om;have L:decide (s.size<=16)=true:=dE J;obtain⟨b,C⟩:∃b,bAt s 0=b:=⟨_,rfl⟩
 have I:=fun B=>yU (s:=s) (k:=0) (x:=b) h.len.1 C B;have D:=zh (fun B=>gH B b);rw[<-C,h.fst,C] at D;have E:=zh (fun B=>GK B s 0 s.size om (aZ5 _) zr (fun k F G=>h.all k F G) (fun H=>aB H (Nat.lt_irrefl _)));clear h C A;simp only[Int.natCast_zero] at I E;go_enter func280,ntmps280;go_wp2_with fail;apply(D _).mono;rintro e w1⟨rfl,rfl⟩;go_wp2_with fail;apply(E _).mono;rintro e w1⟨rfl,rfl⟩;go_wp2;go_ret;exact⟨by simp,rfl⟩
theorem XQ(w:Wo)(x:Nat)(C:x<=9999999):Calls prog 163 #[.agg #[.int .i64 1,.string {data:=#[]},x,(),()]] w (nX w true):=by
 have A:=zh (Blk.new w 50 (iZ x));have B:=zh (aH w (.cells (iZ x).toArray 50));unfold iZ at A B;go_enter func163,ntmps163;go_upto_region 1 with fail;generalize w.alloc (.cells #[.int .i64 1,.string {data:=#[]},x,(),()] 50)=w0 at*;obtain⟨D,E,F,G,H,_,_,_,_,_⟩:=A.five;go_wp2;go_loopw [8] (fun i wr=>i=.int .i64 0/\wr=w0) (fun _ _=>0)
 .exact⟨rfl,rfl⟩
 .obtain⟨rfl,rfl⟩:=hrel;go_wp2_with fail;apply(KC _ x C).mono;rintro e w1⟨rfl,rfl⟩;go_wp2;go_ret;exact⟨rfl,B.out⟩
theorem SV(w:Wo)(nm:By)(A:OA)(m c:Nat)(hn:nB nm):Calls prog 163 #[.agg #[.int .i64 3,.string nm,z0,(),.slice A m c]] w (nX w true):=by
 have B:=zh (Blk.new w 50 (XBk nm (.slice A m c)));have C:=zh (aH w (.cells (XBk nm (.slice A m c)).toArray 50));unfold XBk at B C;go_enter func163,ntmps163;go_upto_region 1 with fail;generalize w.alloc (.cells #[.int .i64 3,.string nm,z0,(),.slice A m c] 50)=w0 at*;obtain⟨D,E,F,G,H,_,_,_,_,_⟩:=B.five;go_wp2;go_loopw [8] (fun i wr=>i=.int .i64 0/\wr=w0) (fun _ _=>0)
 .exact⟨rfl,rfl⟩
 .obtain⟨rfl,rfl⟩:=hrel;go_wp2_with fail;apply(R9 _ nm hn).mono;rintro e w1⟨rfl,rfl⟩;go_wp2;go_ret;exact⟨rfl,C.out⟩
def XC(B:Int)(nm:By)(x:Int)(A:OA)(n c:Nat):List Va:=[(B:aV),.string nm,(x:aV),.slice none 0 0,.slice A n c]
theorem RG.xc{w:Wo}{A:OA}{m c:Nat}{D:List (List Va)}(h:RG 5 w (.slice A m c) D){k:Nat}(hk:k<D){G:Int}{nm:By}{x:Int}{E:OA}{n c':Nat}(H:D k []=XC G nm x E n c'):
 ∃B,A=some B/\w.cell? (B.add (k*5))=some (G:aV)/\w.cell? ⟨(B.add (k*5)).block,(B.add (k*5)).off+1,none⟩=some (.string nm)/\w.cell? ⟨(B.add (k*5)).block,(B.add (k*5)).off+2,none⟩=some (x:aV)/\
  w.cell? ⟨(B.add (k*5)).block,(B.add (k*5)).off+3,none⟩=some (():aV)/\w.cell? ⟨(B.add (k*5)).block,(B.add (k*5)).off+4,none⟩=some (.slice E n c'):=by
 obtain⟨B,e,F,C⟩:=h.elt hk;rw[H] at F C;exact⟨B,e,F _ rfl,C 0 _ rfl,C 1 _ rfl,C 2 _ rfl,C 3 _ rfl⟩
theorem WG(w:Wo)(x:Nat)(J:x<=9999999):Calls prog 115 #[.agg #[.int .i64 1,.string {data:=#[]},x,(),()]] w (nX w true):=by
 have A:=zh (Blk.new w 50 (iZ x));have B:=zh (aH w (.cells (iZ x).toArray 50));unfold iZ at A B;go_enter func115,ntmps115;go_upto_region 1 with fail;generalize w.alloc (.cells #[.int .i64 1,.string {data:=#[]},x,(),()] 50)=w0 at*;obtain⟨D,E,F,G,H,_,_,_,_,_⟩:=A.five;go_wp2_with fail;apply(XQ w0 x J).mono;rintro e w1⟨rfl,C⟩;replace A:=zh (A.belowS C);replace B:=zh (aC B C);clear C D E F G H;obtain⟨D,E,F,G,H,_,_,_,_,_⟩:=A.five;go_wp2;go_loopw [11] (fun i wr=>i=.int .i64 0/\Hid (Below w w wr)) (fun _ _=>0)
 .exact⟨rfl,B⟩
 .obtain⟨rfl,I⟩:=hrel;go_wp2;go_ret;exact⟨rfl,I.out⟩
theorem YV(w:Wo)(x:Nat)(I:x<=9999999):Calls prog 117 #[.agg #[.int .i64 1,.string {data:=#[]},x,(),()]] w (kV w 1):=by
 have A:=zh (Blk.new w 50 (iZ x));have B:=zh (aH w (.cells (iZ x).toArray 50));unfold iZ at A B;go_enter func117,ntmps117;go_upto_region 1 with fail;generalize w.alloc (.cells #[.int .i64 1,.string {data:=#[]},x,(),()] 50)=w0 at*;obtain⟨D,E,F,G,H,_,_,_,_,_⟩:=A.five;go_wp2;go_loopw [3,9] (fun n i wr=>n=.int .i64 1/\i=.int .i64 0/\Hid (Below w w wr)) (fun _ _ _=>0)
 .exact⟨rfl,rfl,B⟩
 .obtain⟨rfl,rfl,C⟩:=hrel;go_wp2;go_ret;exact⟨rfl,C.out⟩
def ZP(w:Wo)(d:Int)(e:Ending)(w':Wo):Prop:=e=.returned (.tuple #[d,.bool true])/\Below w w w'
theorem XB(w:Wo)(x:Nat)(I:x<=9999999):Calls prog 116 #[.agg #[.int .i64 1,.string {data:=#[]},x,(),()]] w (ZP w 1):=by
 have A:=zh (Blk.new w 50 (iZ x));have B:=zh (aH w (.cells (iZ x).toArray 50));unfold iZ at A B;go_enter func116,ntmps116;go_upto_region 1 with fail;generalize w.alloc (.cells #[.int .i64 1,.string {data:=#[]},x,(),()] 50)=w0 at*;obtain⟨D,E,F,G,H,_,_,_,_,_⟩:=A.five;go_wp2;go_loopw [2,3,15] (fun d o i wr=>d=.int .i64 0/\o=.bool true/\i=.int .i64 0/\Hid (Below w w wr)) (fun _ _ _ _=>0)
 .exact⟨rfl,rfl,rfl,B⟩
 .obtain⟨rfl,rfl,rfl,C⟩:=hrel;go_wp2;go_ret2;exact⟨rfl,C.out⟩
theorem RQ(w:Wo)(nm:By)(A:OA)(m c:Nat)(I:List (List Va))(q:m<=100)(hn:nB nm)(T:RG 5 w (.slice A m c) I)(U:I=m)
 (V:∀k,k<m->∃C D x B n c',I k []=XC C D x B n c'/\∀w',Below w w w'->Calls prog 115 #[.agg #[.int .i64 C,.string D,.int .i64 x,(),.slice B n c']] w' (nX w' true)):
 Calls prog 115 #[.agg #[.int .i64 3,.string nm,z0,(),.slice A m c]] w (nX w true):=by
 have Y:=zh T;have Z:=zh U;have a:=zh V;clear T U V;have E:=zh (Blk.new w 50 (XBk nm (.slice A m c)));have F:=zh (aH w (.cells (XBk nm (.slice A m c)).toArray 50));unfold XBk at E F;go_enter func115,ntmps115;go_upto_region 1 with fail;generalize w.alloc (.cells #[.int .i64 3,.string nm,z0,(),.slice A m c] 50)=w0 at*;obtain⟨K,L,M,N,O,_,_,_,_,_⟩:=E.five;go_wp2_with fail;apply(SV w0 nm A m c hn).mono;rintro e w1⟨rfl,H⟩;replace E:=zh (E.belowS H);replace F:=zh (aC F H);clear H K L M N O;obtain⟨K,L,M,N,O,_,_,_,_,_⟩:=E.five;go_wp2;go_loopw [11] (fun i wr=>∃k:Nat,k<=m/\i=(k:aV)/\Hid (Below w w wr)) (fun i _=>m-(intOf i).toNat)
 .exact⟨0,aZ5 _,rfl,F⟩
 .
  obtain⟨k,hk,rfl,G⟩:=hrel;by_cases S:k<m
  .obtain⟨C,D,x,B,n,c',R,Q⟩:=a.out k S;obtain⟨p,rfl,t0,d,t2,t3,f⟩:=(Y.below G zr).xc (k:=k) (Z.out▸S) R;have X:=zh Q;clear R Q;have b:=zh (Blk.new wr 50 [(C:aV),.string D,(x:aV),.slice none 0 0,.slice B n c']);have J:=zh (aC G (aH wr (.cells [(C:aV),.string D,(x:aV),.slice none 0 0,.slice B n c'].toArray 50)));go_upto_region 6 with fail;generalize wr.alloc (.cells #[C,.string D,x,(),.slice B n c'] 50)=w2 at*;clear t0 d t2 t3 f;obtain⟨g,h,j,l,o,_,_,_,_,_⟩:=b.five;go_wp2_with fail;apply(X.out w2 J).mono;rintro e r⟨rfl,P⟩;have W:=zh (aC J P);clear P g h j l o;go_wp2;exact⟨⟨k+1,om,pC,W⟩,oI⟩
  .obtain rfl:m=k:=om
   go_wp2;go_ret;exact⟨rfl,G.out⟩
theorem TY(w:Wo)(nm:By)(A:OA)(m c:Nat)(H:List (List Va))(ι:m<=100)(hn:nB nm)(S:RG 5 w (.slice A m c) H)(T:H=m)(B F:Nat->Nat)(L:B 0=1)(R:∀k,B (k+1)=B k+F k)(M:∀k,k<=m->B k<=100000/\F k<=100000)
 (U:∀k,k<m->∃D E x C n c',H k []=XC D E x C n c'/\∀w',Below w w w'->Calls prog 117 #[.agg #[.int .i64 D,.string E,.int .i64 x,(),.slice C n c']] w' (kV w' (F k:Nat))):
 Calls prog 117 #[.agg #[.int .i64 3,.string nm,z0,(),.slice A m c]] w (kV w (B m:Nat)):=by
 have b:=zh S;have d:=zh T;have f:=zh U;clear S T U;have J:=zh (Blk.new w 50 (XBk nm (.slice A m c)));have K:=zh (aH w (.cells (XBk nm (.slice A m c)).toArray 50));unfold XBk at J K;go_enter func117,ntmps117;go_upto_region 1 with fail;generalize w.alloc (.cells #[.int .i64 3,.string nm,z0,(),.slice A m c] 50)=w0 at*;obtain⟨v,y,δ,ε,ζ,_,_,_,_,_⟩:=J.five;have Z:=zh R;have X:=zh M;have V:=zh L;clear R M L;go_wp2;go_loopw [3,9] (fun q i wr=>∃k:Nat,k<=m/\q=.int .i64 (B k:Nat)/\i=(k:aV)/\Hid (Below w w wr)) (fun _ i _=>m-(intOf i).toNat)
 .exact⟨0,aZ5 _,by rw[V.out];rfl,rfl,K⟩
 .
  obtain⟨k,hk,rfl,rfl,G⟩:=hrel;by_cases Q:k<m
  .obtain⟨D,E,x,C,n,c',P,O⟩:=f.out k Q;obtain⟨u,rfl,t0,h,t2,t3,j⟩:=(b.below G zr).xc (k:=k) (d.out▸Q) P;have Y:=zh O;clear P O;have g:=zh (Blk.new wr 50 [(D:aV),.string E,(x:aV),.slice none 0 0,.slice C n c']);have I:=zh (aC G (aH wr (.cells [(D:aV),.string E,(x:aV),.slice none 0 0,.slice C n c'].toArray 50)));go_upto_region 5 with fail;generalize wr.alloc (.cells #[D,.string E,x,(),.slice C n c'] 50)=w2 at*;clear t0 h t2 t3 j;obtain⟨l,o,p,r,t,_,_,_,_,_⟩:=g.five;go_wp2_with fail;apply(Y.out w2 I).mono;rintro e κ⟨rfl,N⟩;have W:=zh (aC I N);clear N l o p r t;obtain⟨η,θ⟩:=X.out k hk;have a:=zh (Z k);generalize B k=s at*;generalize F k=z at*;go_wp2;exact⟨⟨k+1,om,by rw[a.out];push_cast;rfl,pC,W⟩,oI⟩
  .obtain rfl:m=k:=om
   go_wp2;go_ret;exact⟨rfl,G.out⟩
theorem SD(w:Wo)(nm:By)(A:OA)(m c:Nat)(I:List (List Va))(ν:m<=100)(hn:nB nm)(W:RG 5 w (.slice A m c) I)(X:I=m)(B dp:Nat->Nat)(P:B 0=0)(U:∀k,k<m->(if B k<dp k then dp k else B k)=B (k+1))(Q:∀k,k<=m->B k<=100000/\dp k<=100000)
 (Y:∀k,k<m->∃D E x C n c',I k []=XC D E x C n c'/\∀w',Below w w w'->Calls prog 116 #[.agg #[.int .i64 D,.string E,.int .i64 x,(),.slice C n c']] w' (ZP w' (dp k:Nat))):
 Calls prog 116 #[.agg #[.int .i64 3,.string nm,z0,(),.slice A m c]] w (ZP w (B m+1:Nat)):=by
 have d:=zh W;have f:=zh X;have g:=zh Y;clear W X Y;have M:=zh (Blk.new w 50 (XBk nm (.slice A m c)));have O:=zh (aH w (.cells (XBk nm (.slice A m c)).toArray 50));unfold XBk at M O;go_enter func116,ntmps116;go_upto_region 1 with fail;generalize w.alloc (.cells #[.int .i64 3,.string nm,z0,(),.slice A m c] 50)=w0 at*;obtain⟨η,θ,ι,κ,μ,_,_,_,_,_⟩:=M.five;have b:=zh U;have K:=zh Q;have Z:=zh P;clear U Q P;go_wp2;go_loopw [2,3,15] (fun q o i wr=>∃k:Nat,k<=m/\q=.int .i64 (B k:Nat)/\o=.bool true/\i=(k:aV)/\Hid (Below w w wr)) (fun _ _ i _=>m-(intOf i).toNat)
 .exact⟨0,aZ5 _,by rw[Z.out];rfl,rfl,rfl,O⟩
 .
  obtain⟨k,hk,rfl,rfl,rfl,F⟩:=hrel;by_cases H:k<m
  .obtain⟨D,E,x,C,n,c',T,S⟩:=g.out k H;obtain⟨ζ,rfl,t0,r,t2,t3,t⟩:=(d.below F zr).xc (k:=k) (f.out▸H) T;have a:=zh S;clear T S;have h:=zh (Blk.new wr 50 [(D:aV),.string E,(x:aV),.slice none 0 0,.slice C n c']);have L:=zh (aC F (aH wr (.cells [(D:aV),.string E,(x:aV),.slice none 0 0,.slice C n c'].toArray 50)));go_upto_region 5 with fail;generalize wr.alloc (.cells #[D,.string E,x,(),.slice C n c'] 50)=w2 at*;clear t0 r t2 t3 t;obtain⟨u,v,y,δ,ε,_,_,_,_,_⟩:=h.five;go_wp2_with fail;apply(a.out w2 L).mono;rintro e ξ⟨rfl,R⟩;have J:=zh (aC L R);clear R u v y δ ε;obtain⟨j,l⟩:=K.out k hk;have N:=zh (b k H);generalize B k=s at*;generalize dp k=z at*;by_cases V:s<z
   .have G:Hid (B (k+1)=z):=aG (by rw[<-N.out,iP V]);have p:(s:Int)<(z:Int):=om
    go_wp2;exact⟨⟨k+1,om,by rw[G.out],rfl,pC,J⟩,oI⟩
   .have G:Hid (B (k+1)=s):=aG (by rw[<-N.out,iN V]);have p:¬(s:Int)<(z:Int):=om
    go_wp2;exact⟨⟨k+1,om,by rw[G.out],rfl,pC,J⟩,oI⟩
  .obtain rfl:m=k:=om;obtain⟨j,l⟩:=K.out m zr;generalize B m=s at*;go_wp2;go_ret2;exact⟨pC,F.out⟩
