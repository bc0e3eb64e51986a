/- Texts of a claim, merged. -/
import Derived.Test.YtpfhoemohibniaaGreatDoorZA11
import Derived.Defers
import Derived.Recover
set_option maxRecDepth 100000
set_option linter.unusedSimpArgs false
set_option linter.unusedVariables false
set_option maxHeartbeats 32000000
namespace Go.Proofs.YtpfhoemohibniaaGreatDoor
open Go.RowKit
theorem JA(p q:Addr)(w:World):
  CallsD Tryz.prog 30 #[.pointer (some p),.pointer (some q)] .returning w fun e D w'=>e=.returned (.tuple #[])/\D=.returning/\w'=w:=by
 refine callsD_of_wpS Tryz.func30 rfl fun B cs C=>?_;have hq:∀A:World,(binOp .eql 20 .nilIface .nilIface).run Tryz.prog A=.ok (.bool true) A:=fun A=>by kernel_rfl
 apply wpS_seq;apply wpS_region;simp[wpOpsS,go_sem,recoverD,C,Tryz.ntmps30,Exit.thenS];refine wpS_of_wp ?_;refine wp_block ?_;refine wp_seq ?_;refine wp_region_list ?_;simp[wpList,go_sem,hq];refine .inl ?_;refine wp_cond_true (by simp[Act.eval]) ?_;refine wp_region_list ?_;simp[wpList,go_sem,Exit.inBlock];refine .inl ?_;cases B;simp_all [bodyPostS,results,Tryz.results30]
def gB(x:Nat):List Value:=[.int .i64 1,.string {data:=#[]},.int .i64 (x:Int),.slice none 0 0,.slice none 0 0]
def F7(x:Nat)(_:World)(cs:List Value):Prop:=cs=gB x
def RJ(nm:ByteArray)(m:Nat)(Φ:Nat->World->List Value->Prop)(w:World)(cs:List Value):Prop:=
 ∃A c,cs=XBk nm (.slice A m c)/\∃B:List (List Value),B.length=m/\RG 5 w (.slice A m c) B/\∀j,j<m->Φ j w (B.getD j [])
def gfX:World->List Value->Prop:=RJ lA 1 fun _=>F7 2
def BD:World->List Value->Prop:=RJ eF 2 fun j=>if j=0 then gfX else F7 3
theorem SB(x:Nat):∀u∈gB x,u.oneCell'=true:=by intro u A;simp[gB] at A;rcases A with rfl|rfl|rfl|rfl|rfl<;>rfl
theorem KV(nm:ByteArray)(A:Option Addr)(n c:Nat):∀u∈XBk nm (.slice A n c),u.oneCell'=true:=by intro u B;simp[XBk] at B;rcases B with rfl|rfl|rfl|rfl|rfl<;>rfl
theorem K0{g:Nat}{lv:Value}{toks:List (List Value)}{i n k dep x at_:Nat}{tx:ByteArray}(hi:i<toks.length)(E:toks.getD i []=eE 2 tx x at_)(A:dep<=32)(C:k+1<=1000):KR g lv toks n (dep:Int) i (i+1) k (k+1) (F7 x):=
 ⟨fun w h=>(QV w g lv toks i n k dep x at_ tx h hi E A C).mono fun e w' ⟨B,hg,D⟩=>⟨_,_,_,_,_,B,SB x,hg,D,fun w2 _=>rfl⟩⟩
theorem XE{g:Nat}{lv:Value}{n k:Nat}(H:k<=10):KR g lv scT n ((2:Nat):Int) 2 6 k (k+2) gfX:=
 ⟨fun w h=>(B7 w g lv scT 2 n k 2 1 8 10 lA h (by decide) rfl rfl (by decide) (by omega) (by decide) (fun j=>4+j) (fun j=>k+1+j) (fun _=>F7 2) rfl rfl (fun _=>⟨by decide,2,rfl,rfl⟩) (fun j F B=>by omega)
  (fun j G=>by
   obtain rfl:j=0:=by omega
   exact K0 (dep:=3) (x:=2) (at_:=11) (tx:=⟨#[50]⟩) (by decide) rfl (by decide) (by omega)) ⟨by decide,12,rfl⟩).mono fun e w' ⟨A,c,C,hg,D,E⟩=>⟨_,_,_,_,_,C,KV lA A 1 c,hg,D,fun w2 B=>⟨A,c,rfl,E w2 B⟩⟩⟩
theorem VZ{g:Nat}{lv:Value}{n:Nat}:KR g lv scT n ((1:Nat):Int) 0 9 0 4 BD:=
 ⟨fun w h => (B7 w g lv scT 0 n 0 1 2 0 7 eF h (by decide) rfl rfl (by decide) (by omega) (by decide) (fun j => [2, 6, 8].getD j 0) (fun j => [1, 3, 4].getD j 0) (fun j => if j = 0 then gfX else F7 3) rfl rfl (fun _ => ⟨by decide, 1, rfl, rfl⟩) (fun j F B => by
     obtain rfl:j=1:=by omega
     exact⟨by decide,13,rfl⟩)
   (fun j G=>by
     rcases(by omega:j=0\/j=1) with rfl|rfl
     . exact XE (by decide)
     . exact K0 (dep:=2) (x:=3) (at_:=15) (tx:=⟨#[51]⟩) (by decide) rfl (by decide) (by decide)) ⟨by decide,16,rfl⟩).mono fun e w' ⟨A,c,C,hg,D,E⟩=>⟨_,_,_,_,_,C,KV eF A 2 c,hg,D,fun w2 B=>⟨A,c,rfl,E w2 B⟩⟩⟩
theorem pH(w:World)(B D F:TypeId)(A C E:List Value):∃w0,((w.alloc (.cells A.toArray B)).alloc (.cells C.toArray D)).alloc (.cells E.toArray F)=w0/\Blk w0 w.heap.size B A/\Blk w0 (w.heap.size+1) D C/\Blk w0 (w.heap.size+1+1) F E/\Below w.heap.size w w0:=by
 have I:(w.alloc (.cells A.toArray B)).heap.size=w.heap.size+1:=by show(w.heap.push _).size=_;rw[Array.size_push]
 have K:((w.alloc (.cells A.toArray B)).alloc (.cells C.toArray D)).heap.size=w.heap.size+1+1:=by show((w.alloc (.cells A.toArray B)).heap.push _).size=_;rw[Array.size_push,I]
 have J:=Blk.new w B A;have G:=Blk.new (w.alloc (.cells A.toArray B)) D C;have H:=Blk.new ((w.alloc (.cells A.toArray B)).alloc (.cells C.toArray D)) F E;rw[I] at G;rw[K] at H;exact⟨_,rfl,(J.alloc _).alloc _,G.alloc _,H,aA (aA (aF _ _) (aF _ _)) (aF _ _)⟩
theorem N9(w:World):Calls Tryz.prog 11 #[.string scS] w (fun e w'=>∃a b c d f,e=.returned (.tuple #[.agg #[a,b,c,d,f],.int .i64 0,.int .i64 0])/\Wnd w.heap.size w'.heap.size w' (fun w2=>BD w2 [a,b,c,d,f])/\Below w.heap.size w w'):=by
 obtain⟨s,i⟩:∃s,s=scS:=⟨_,rfl⟩
 have Ax:s.size=17:=by rw[i];rfl
 have o:=zh (fun Ah:World=>TB Ah);rw[<-i] at o|-;clear i
 go_enter_defers Tryz.func11,Tryz.ntmps11
 go_upto_region 2 with fail;obtain⟨w0,X,T,η,r,t⟩:=pH w 43 30 3 oU [.int .i64 0] [.int .i64 0];unfold oU at X T;rw[X];have F:=zh T;have D:=zh η;have C:=zh r;have E:=zh t;clear X T η r t;go_wp2_with fail;refine(o.out w0).mono ?_;rintro e w1 ⟨v,rfl,Z,R⟩;obtain⟨A,c,rfl⟩:=Z.form';have O:=zh Z;have θ:scT.length=9:=rfl;rw[θ] at O|-;replace F:=zh (F.belowS R);replace D:=zh (D.belowS R);replace C:=zh (C.belowS R);replace E:=zh (aA E R);clear Z R θ;go_upto_region 3 with fail;have V:=zh (Blk.new w1 75 [.slice A 9 c,.int .i64 0,.int .i64 17,.int .i64 0]);have N:=aF w1 (.cells [Value.slice A 9 c,.int .i64 0,.int .i64 17,.int .i64 0].toArray 75);have m:=zh (fun b (hb:(Value.slice A 9 c).ownBlock=some b)=>(O.lt hb).2);replace O:=zh (O.below N zr);have q:=zh F.lt;have l:=zh D.lt;have j:=zh C.lt;replace F:=zh (F.belowS N);replace D:=zh (D.belowS N);replace C:=zh (C.belowS N);replace E:=zh (aA E N);clear N;generalize w1.alloc (.cells #[.slice A 9 c,.int .i64 0,.int .i64 17,.int .i64 0] 75)=w2 at*;have n:Hid (PS w2 w1.heap.size (.slice A 9 c) scT 0 17 0):=aD ⟨V.out,O.rg,m.out,by decide⟩;obtain⟨g,hg⟩:∃g,g=w1.heap.size:=⟨_,rfl⟩
 rw[<-hg] at V n m q l j|-;have τ:Hid (Calls Tryz.prog 32 #[.pointer (some ⟨g,0,none⟩),.int .i64 1] w2 (fun e w'=>∃a b P d f,e=.returned (.agg #[a,b,P,d,f])/\(∀u∈[a,b,P,d,f],u.oneCell'=true)/\w2.grownBy w' (some g)/\PS w' g (.slice A 9 c) scT 9 17 4/\Wnd w2.heap.size w'.heap.size w' (fun H=>BD H [a,b,P,d,f]))):=aD (VZ.run w2 n);clear hg;go_wp2_with fail;refine τ.mono ?_;rintro e H ⟨a,b,P,d,f,rfl,Ad,S,ι,h⟩;have U:=zh ι;have W:=zh h;obtain⟨I,M,ζ,_⟩:=h H fun _ _ _=>rfl;obtain⟨rfl,rfl,rfl,rfl,rfl⟩:a=.int .i64 3/\b=.string eF/\P=.int .i64 0/\d=.slice none 0 0/\f=.slice I 2 M:=by simpa[XBk] using ζ
 have Ay:=q.out;have Au:=l.out;have At:=j.out;replace F:=zh (F.grown S (fun e=>by have:=aZ0 e;omega));replace D:=zh (D.grown S (fun e=>by have:=aZ0 e;omega));replace C:=zh (C.grown S (fun e=>by have:=aZ0 e;omega));replace E:=zh (E.grown S E.size (fun k e=>by have:=aZ0 e;omega));clear S ι h ζ Ad;go_upto_region 4 with fail;have χ:=zh (Blk.new H 43 [.int .i64 3,.string eF,.int .i64 0,.slice none 0 0,.slice I 2 M]);have G:=aF H (.cells [.int .i64 3,.string eF,.int .i64 0,.slice none 0 0,.slice I 2 M].toArray 43);replace F:=zh (F.belowS G);replace D:=zh (D.belowS G);replace C:=zh (C.belowS G);replace E:=zh (aA E G);replace U:=zh (U.grown (row:=none) (aN G none) (fun b e=>by cases e));have φ:Hid (H.heap.size<=(H.alloc (.cells [.int .i64 3,.string eF,.int .i64 0,.slice none 0 0,.slice I 2 M].toArray 43)).heap.size):=aD G.size;replace W:=zh (W.move fun p _ Y=>G.cell (p:=p) Y);clear G;generalize H.alloc (.cells #[.int .i64 3,.string eF,.int .i64 0,.slice none 0 0,.slice I 2 M] 43)=B at*;obtain⟨Bf,Bg,Bh,Bi,Bj,_,_,_,_,_⟩:=χ.five;obtain⟨x0,x1,x2,x3,x4,Ak,Al,Am,An,Ao⟩:=F.five;have Aj:B.cell? ⟨w.heap.size+1,0,none⟩=some (.int .i64 0):=D.cell 0;have Aq:B.frozen? ⟨w.heap.size+1,0,none⟩=false:=D.frozen 0;have Ai:B.cell? ⟨w.heap.size+1+1,0,none⟩=some (.int .i64 0):=C.cell 0;have Ap:B.frozen? ⟨w.heap.size+1+1,0,none⟩=false:=C.frozen 0;have Ar:B.cell? ⟨g,0,none⟩=some (.slice A 9 c):=U.blk.cell 0;have As:B.cell? ⟨g,1,none⟩=some (.int .i64 9):=U.blk.cell 1;go_wp2_with fail
 go_quiet (fail)
 go_wp2_with fail;obtain⟨Ag,ω,J⟩:=uP (x:=.int .i64 3) (y:=.string eF) (z:=.int .i64 0) (u:=.slice none 0 0) (v:=.slice I 2 M) (F.belowS (bI B nq));rw[ω];obtain⟨Bd,Aa,K⟩:=X6 (x:=.int .i64 0) ((D.belowS (bI B nq)).grown J.gr (fun e=>by have:=aZ0 e;omega));rw[Aa];obtain⟨Be,Ab,L⟩:=X6 (x:=.int .i64 0) (((C.belowS (bI B nq)).grown J.gr (fun e=>by have:=aZ0 e;omega)).grown K.gr (fun e=>by have:=aZ0 e;omega));rw[Ab];have Q:=(J.blk.grown K.gr (fun e=>by have:=aZ0 e;omega)).grown L.gr (fun e=>by have:=aZ0 e;omega);have κ:=Q.cell 0;have μ:=Q.cell 1;have ν:=Q.cell 2;have ξ:=Q.cell 3;have π:=Q.cell 4;have σ:=(K.blk.grown L.gr (fun e=>by have:=aZ0 e;omega)).cell 0;have ρ:=L.blk.cell 0;simp only[List.getElem?_cons_zero,List.getElem?_cons_succ] at κ μ ν ξ π σ ρ;refine leaves_cons (f:=30) (args:=#[.pointer (some ⟨w.heap.size+1,0,none⟩),.pointer (some ⟨w.heap.size+1+1,0,none⟩)]) (by simp) (by simp[go_sem]) ?_;refine(JA _ _ _).mono ?_;rintro e Bc Af ⟨rfl,rfl,rfl⟩;simp[Leaves,settle,results,Tryz.results11,go_sem,κ,μ,ν,ξ,π,σ,ρ];have Av:=V.lt;have Aw:=φ.out;have δ:=J.below (aA E (bI B nq)) E.size zr;have ε:=K.below δ δ.size (by omega);have Ac:=L.below ε ε.size (by omega);have Az:B.heap.size<=Ag.heap.size:=J.gr.size;have Ba:=K.gr.size;have Bb:=L.gr.size;refine⟨_,_,_,_,_,⟨rfl,rfl,rfl,rfl,rfl⟩,?_,Ac⟩;have Ae:=W.move (w':=Af) fun p ψ Y=>by rw[World.cell?_of_block (L.gr.block _ (by omega) (fun e=>by have:=aZ0 e;omega)),World.cell?_of_block (K.gr.block _ (by omega) (fun e=>by have:=aZ0 e;omega))];exact World.cell?_of_block (w:=B.drewN nq) (J.gr.block _ (by show _<B.heap.size;omega) (fun e=>by have:=aZ0 e;omega))
 exact fun x T=>Ae x fun p ψ Y=>T p (by omega) (by omega)
theorem F8(w:World)(n:Nat)(h:n<=9999999):Calls Tryz.prog 284 #[.int .i64 (n:Int)] w (fun e w'=>e=.returned (.bool true)/\w=w'):=by have C:decide ((0:Int)<=(n:Int))=true:=decide_eq_true (by omega);have A:decide ((n:Int)<=9999999)=true:=decide_eq_true (by omega);have B:decide (n<=9999999)=true:=decide_eq_true h;go_enter Tryz.func284,Tryz.ntmps284;go_wp2_with fail;go_ret;exact⟨by simp[A,B,h],rfl⟩
structure lC(s:ByteArray):Prop where
 ne:(s.toList==ByteArray.empty.toList)=false
 len:0<s.size/\s.size<=16
 fst:yI (bAt s 0)=true
 all:∀k,0<=k->k<s.size->sU (bAt s k)=true
theorem lC.ham:lC eF:=⟨by rw[ByteArray.toList_eq,ByteArray.toList_eq];decide,by decide,by decide,by
 have:∀k,k<7->sU (bAt eF k)=true:=by decide
 exact fun k _ h=>this k h⟩
theorem lC.gf:lC lA:=⟨by rw[ByteArray.toList_eq,ByteArray.toList_eq];decide,by decide,by decide,by
 have:∀k,k<2->sU (bAt lA k)=true:=by decide
 exact fun k _ h=>this k h⟩
theorem NK(w:World)(s:ByteArray)(h:lC s):Calls Tryz.prog 285 #[.string s] w (fun e w'=>e=.returned (.bool true)/\w=w'):=by
 have A:(s.toList==(⟨#[]⟩:ByteArray).toList)=false:=h.ne;have M:(s.toList !=(⟨#[]⟩:ByteArray).toList)=true:=by rw[bne,A];rfl
 have N:s.toList.isEmpty=false:=by
  have:(⟨#[]⟩:ByteArray).toList=[]:=by rw[ByteArray.toList_eq]
  rw[this] at A;cases hs:s.toList with
  |nil=>rw[hs] at A;cases A
  |cons=>rfl
 have L:=h.len.1;have I:=h.len.2;have J:decide ((s.size:Int)<=16)=true:=decide_eq_true (by omega);have K:decide (s.size<=16)=true:=decide_eq_true I;obtain⟨b,hb⟩:∃b,bAt s 0=b:=⟨_,rfl⟩
 have H:=fun B=>vH (s:=s) (k:=0) (x:=b) h.len.1 hb B;have C:=zh (fun B=>eL B b);rw[<-hb,h.fst,hb] at C;have D:=zh (fun B=>DM B s 0 s.size (by omega) (aZ5 _) zr (fun k E F=>h.all k E F) (fun G=>absurd G (Nat.lt_irrefl _)));clear h hb A;simp only[Int.natCast_zero] at H D;go_enter Tryz.func285,Tryz.ntmps285;go_wp2_with fail;refine(C _).mono ?_;rintro e w1 ⟨rfl,rfl⟩;go_wp2_with fail;refine(D _).mono ?_;rintro e w1 ⟨rfl,rfl⟩;go_wp2_with fail;go_ret;exact⟨by simp,rfl⟩
theorem R8(w:World)(x:Nat)(C:x<=9999999):Calls Tryz.prog 184 #[.agg #[.int .i64 1,.string {data:=#[]},.int .i64 (x:Int),.slice none 0 0,.slice none 0 0]] w (sG w true):=by
 have A:=zh (Blk.new w 43 (gB x));have B:=zh (aF w (.cells (gB x).toArray 43));unfold gB at A B;go_enter Tryz.func184,Tryz.ntmps184;go_upto_region 1 with fail;generalize w.alloc (.cells #[.int .i64 1,.string {data:=#[]},.int .i64 (x:Int),.slice none 0 0,.slice none 0 0] 43)=w0 at*;obtain⟨D,E,F,G,H,_,_,_,_,_⟩:=A.five;go_wp2_with fail;go_loopw [8] (fun i wr=>i=.int .i64 0/\wr=w0) (fun _ _=>0)
 case atStart=>exact⟨rfl,rfl⟩
 case round=>obtain⟨rfl,rfl⟩:=hrel;go_wp2_with fail;refine(F8 _ x C).mono ?_;rintro e w1 ⟨rfl,rfl⟩;go_wp2_with fail;go_ret;exact⟨rfl,B.out⟩
theorem N5(w:World)(nm:ByteArray)(A:Option Addr)(m c:Nat)(hn:lC nm):Calls Tryz.prog 184 #[.agg #[.int .i64 3,.string nm,.int .i64 0,.slice none 0 0,.slice A m c]] w (sG w true):=by
 have B:=zh (Blk.new w 43 (XBk nm (.slice A m c)));have C:=zh (aF w (.cells (XBk nm (.slice A m c)).toArray 43));unfold XBk at B C;go_enter Tryz.func184,Tryz.ntmps184;go_upto_region 1 with fail;generalize w.alloc (.cells #[.int .i64 3,.string nm,.int .i64 0,.slice none 0 0,.slice A m c] 43)=w0 at*;obtain⟨D,E,F,G,H,_,_,_,_,_⟩:=B.five;go_wp2_with fail;go_loopw [8] (fun i wr=>i=.int .i64 0/\wr=w0) (fun _ _=>0)
 case atStart=>exact⟨rfl,rfl⟩
 case round=>obtain⟨rfl,rfl⟩:=hrel;go_wp2_with fail;refine(NK _ nm hn).mono ?_;rintro e w1 ⟨rfl,rfl⟩;go_wp2_with fail;go_ret;exact⟨rfl,C.out⟩
def XC(B:Int)(nm:ByteArray)(x:Int)(A:Option Addr)(n c:Nat):List Value:=[.int .i64 B,.string nm,.int .i64 x,.slice none 0 0,.slice A n c]
theorem RG.xc{w:World}{A:Option Addr}{m c:Nat}{D:List (List Value)}(h:RG 5 w (.slice A m c) D){k:Nat}(I:k<D.length){G:Int}{nm:ByteArray}{x:Int}{E:Option Addr}{n c':Nat}(H:D.getD k []=XC G nm x E n c'):
  ∃B,A=some B/\w.cell? (B.add (k*5))=some (.int .i64 G)/\w.cell? ⟨(B.add (k*5)).block,(B.add (k*5)).off+1,none⟩=some (.string nm)/\w.cell? ⟨(B.add (k*5)).block,(B.add (k*5)).off+2,none⟩=some (.int .i64 x)/\
   w.cell? ⟨(B.add (k*5)).block,(B.add (k*5)).off+3,none⟩=some (.slice none 0 0)/\w.cell? ⟨(B.add (k*5)).block,(B.add (k*5)).off+4,none⟩=some (.slice E n c'):=by
 obtain⟨B,e,F,C⟩:=h.elt I;rw[H] at F C;exact⟨B,e,F _ rfl,C 0 _ rfl,C 1 _ rfl,C 2 _ rfl,C 3 _ rfl⟩
theorem QY(w:World)(x:Nat)(J:x<=9999999):Calls Tryz.prog 127 #[.agg #[.int .i64 1,.string {data:=#[]},.int .i64 (x:Int),.slice none 0 0,.slice none 0 0]] w (sG w true):=by
 have A:=zh (Blk.new w 43 (gB x));have B:=zh (aF w (.cells (gB x).toArray 43));unfold gB at A B;go_enter Tryz.func127,Tryz.ntmps127;go_upto_region 1 with fail;generalize w.alloc (.cells #[.int .i64 1,.string {data:=#[]},.int .i64 (x:Int),.slice none 0 0,.slice none 0 0] 43)=w0 at*;obtain⟨D,E,F,G,H,_,_,_,_,_⟩:=A.five;go_wp2_with fail;refine(R8 w0 x J).mono ?_;rintro e w1 ⟨rfl,C⟩;replace A:=zh (A.belowS C);replace B:=zh (aA B C);clear C D E F G H;obtain⟨D,E,F,G,H,_,_,_,_,_⟩:=A.five;go_wp2_with fail;go_loopw [11] (fun i wr=>i=.int .i64 0/\Hid (Below w.heap.size w wr)) (fun _ _=>0)
 case atStart=>exact⟨rfl,B⟩
 case round=>obtain⟨rfl,I⟩:=hrel;go_wp2_with fail;go_ret;exact⟨rfl,I.out⟩
theorem TC(w:World)(x:Nat)(I:x<=9999999):Calls Tryz.prog 129 #[.agg #[.int .i64 1,.string {data:=#[]},.int .i64 (x:Int),.slice none 0 0,.slice none 0 0]] w (iJ w 1):=by
 have A:=zh (Blk.new w 43 (gB x));have B:=zh (aF w (.cells (gB x).toArray 43));unfold gB at A B;go_enter Tryz.func129,Tryz.ntmps129;go_upto_region 1 with fail;generalize w.alloc (.cells #[.int .i64 1,.string {data:=#[]},.int .i64 (x:Int),.slice none 0 0,.slice none 0 0] 43)=w0 at*;obtain⟨D,E,F,G,H,_,_,_,_,_⟩:=A.five;go_wp2_with fail;go_loopw [3,9] (fun n i wr=>n=.int .i64 1/\i=.int .i64 0/\Hid (Below w.heap.size w wr)) (fun _ _ _=>0)
 case atStart=>exact⟨rfl,rfl,B⟩
 case round=>obtain⟨rfl,rfl,C⟩:=hrel;go_wp2_with fail;go_ret;exact⟨rfl,C.out⟩
def T6(w:World)(d:Int)(e:Ending)(w':World):Prop:=e=.returned (.tuple #[.int .i64 d,.bool true])/\Below w.heap.size w w'
theorem RU(w:World)(x:Nat)(I:x<=9999999):Calls Tryz.prog 128 #[.agg #[.int .i64 1,.string {data:=#[]},.int .i64 (x:Int),.slice none 0 0,.slice none 0 0]] w (T6 w 1):=by
 have A:=zh (Blk.new w 43 (gB x));have B:=zh (aF w (.cells (gB x).toArray 43));unfold gB at A B;go_enter Tryz.func128,Tryz.ntmps128;go_upto_region 1 with fail;generalize w.alloc (.cells #[.int .i64 1,.string {data:=#[]},.int .i64 (x:Int),.slice none 0 0,.slice none 0 0] 43)=w0 at*;obtain⟨D,E,F,G,H,_,_,_,_,_⟩:=A.five;go_wp2_with fail;go_loopw [2,3,15] (fun d o i wr=>d=.int .i64 0/\o=.bool true/\i=.int .i64 0/\Hid (Below w.heap.size w wr)) (fun _ _ _ _=>0)
 case atStart=>exact⟨rfl,rfl,rfl,B⟩
 case round=>obtain⟨rfl,rfl,rfl,C⟩:=hrel;go_wp2_with fail;go_ret2;exact⟨rfl,C.out⟩
theorem NA(w:World)(nm:ByteArray)(A:Option Addr)(m c:Nat)(I:List (List Value))(hm:m<=100)(hn:lC nm)(T:RG 5 w (.slice A m c) I)(U:I.length=m)
  (V:∀k,k<m->∃C D x B n c',I.getD k []=XC C D x B n c'/\∀w',Below w.heap.size w w'->Calls Tryz.prog 127 #[.agg #[.int .i64 C,.string D,.int .i64 x,.slice none 0 0,.slice B n c']] w' (sG w' true)):
  Calls Tryz.prog 127 #[.agg #[.int .i64 3,.string nm,.int .i64 0,.slice none 0 0,.slice A m c]] w (sG w true):=by
 have Y:=zh T;have Z:=zh U;have a:=zh V;clear T U V;have E:=zh (Blk.new w 43 (XBk nm (.slice A m c)));have F:=zh (aF w (.cells (XBk nm (.slice A m c)).toArray 43));unfold XBk at E F;go_enter Tryz.func127,Tryz.ntmps127;go_upto_region 1 with fail;generalize w.alloc (.cells #[.int .i64 3,.string nm,.int .i64 0,.slice none 0 0,.slice A m c] 43)=w0 at*;obtain⟨K,L,M,N,O,_,_,_,_,_⟩:=E.five;go_wp2_with fail;refine(N5 w0 nm A m c hn).mono ?_;rintro e w1 ⟨rfl,H⟩;replace E:=zh (E.belowS H);replace F:=zh (aA F H);clear H K L M N O;obtain⟨K,L,M,N,O,_,_,_,_,_⟩:=E.five;go_wp2_with fail;go_loopw [11] (fun i wr=>∃k:Nat,k<=m/\i=.int .i64 (k:Int)/\Hid (Below w.heap.size w wr)) (fun i _=>m-(intOf i).toNat)
 case atStart=>exact⟨0,aZ5 _,rfl,F⟩
 case round=>
  obtain⟨k,t,rfl,G⟩:=hrel;by_cases S:k<m
  .obtain⟨C,D,x,B,n,c',R,Q⟩:=a.out k S;obtain⟨s,rfl,d,f,g,h,j⟩:=(Y.below G zr).xc (k:=k) (by rw[Z.out];exact S) R;have X:=zh Q;clear R Q;have b:=zh (Blk.new wr 43 [.int .i64 C,.string D,.int .i64 x,.slice none 0 0,.slice B n c']);have J:=zh (aA G (aF wr (.cells [.int .i64 C,.string D,.int .i64 x,.slice none 0 0,.slice B n c'].toArray 43)));go_upto_region 6 with fail;generalize wr.alloc (.cells #[.int .i64 C,.string D,.int .i64 x,.slice none 0 0,.slice B n c'] 43)=w2 at*;clear d f g h j;obtain⟨l,o,p,q,r,_,_,_,_,_⟩:=b.five;go_wp2_with fail;refine(X.out w2 J).mono ?_;rintro e u ⟨rfl,P⟩;have W:=zh (aA J P);clear P l o p q r;go_wp2_with fail;exact⟨⟨k+1,by omega,by push_cast;rfl,W⟩,by simp only[intOf];omega⟩
  .obtain rfl:m=k:=by omega
   go_wp2_with fail;go_ret;exact⟨rfl,G.out⟩
theorem O2(w:World)(nm:ByteArray)(A:Option Addr)(m c:Nat)(H:List (List Value))(hm:m<=100)(hn:lC nm)(R:RG 5 w (.slice A m c) H)(S:H.length=m)(B F:Nat->Nat)(L:B 0=1)(Q:∀k,B (k+1)=B k+F k)(hb:∀k,k<=m->B k<=100000/\F k<=100000)
  (T:∀k,k<m->∃D E x C n c',H.getD k []=XC D E x C n c'/\∀w',Below w.heap.size w w'->Calls Tryz.prog 129 #[.agg #[.int .i64 D,.string E,.int .i64 x,.slice none 0 0,.slice C n c']] w' (iJ w' (F k:Nat))):
  Calls Tryz.prog 129 #[.agg #[.int .i64 3,.string nm,.int .i64 0,.slice none 0 0,.slice A m c]] w (iJ w (B m:Nat)):=by
 have a:=zh R;have b:=zh S;have d:=zh T;clear R S T;have J:=zh (Blk.new w 43 (XBk nm (.slice A m c)));have K:=zh (aF w (.cells (XBk nm (.slice A m c)).toArray 43));unfold XBk at J K;go_enter Tryz.func129,Tryz.ntmps129;go_upto_region 1 with fail;generalize w.alloc (.cells #[.int .i64 3,.string nm,.int .i64 0,.slice none 0 0,.slice A m c] 43)=w0 at*;obtain⟨ε,ζ,η,θ,ι,_,_,_,_,_⟩:=J.five;have Y:=zh Q;have W:=zh hb;have U:=zh L;clear Q hb L;go_wp2_with fail;go_loopw [3,9] (fun q i wr=>∃k:Nat,k<=m/\q=.int .i64 (B k:Nat)/\i=.int .i64 (k:Int)/\Hid (Below w.heap.size w wr)) (fun _ i _=>m-(intOf i).toNat)
 case atStart=>exact⟨0,aZ5 _,by rw[U.out];rfl,rfl,K⟩
 case round=>
  obtain⟨k,g,rfl,rfl,G⟩:=hrel;by_cases P:k<m
  .obtain⟨D,E,x,C,n,c',O,N⟩:=d.out k P;obtain⟨δ,rfl,h,j,l,o,p⟩:=(a.below G zr).xc (k:=k) (by rw[b.out];exact P) O;have X:=zh N;clear O N;have f:=zh (Blk.new wr 43 [.int .i64 D,.string E,.int .i64 x,.slice none 0 0,.slice C n c']);have I:=zh (aA G (aF wr (.cells [.int .i64 D,.string E,.int .i64 x,.slice none 0 0,.slice C n c'].toArray 43)));go_upto_region 5 with fail;generalize wr.alloc (.cells #[.int .i64 D,.string E,.int .i64 x,.slice none 0 0,.slice C n c'] 43)=w2 at*;clear h j l o p;obtain⟨r,t,u,v,y,_,_,_,_,_⟩:=f.five;go_wp2_with fail;refine(X.out w2 I).mono ?_;rintro e ν ⟨rfl,M⟩;have V:=zh (aA I M);clear M r t u v y;obtain⟨κ,μ⟩:=W.out k g;have Z:=zh (Y k);generalize B k=s at*;generalize F k=z at*;go_wp2_with fail;exact⟨⟨k+1,by omega,by rw[Z.out];push_cast;rfl,by push_cast;rfl,V⟩,by simp only[intOf];omega⟩
  .obtain rfl:m=k:=by omega
   go_wp2_with fail;go_ret;exact⟨rfl,G.out⟩
theorem NR(w:World)(nm:ByteArray)(A:Option Addr)(m c:Nat)(J:List (List Value))(hm:m<=100)(hn:lC nm)(W:RG 5 w (.slice A m c) J)(X:J.length=m)(B F:Nat->Nat)(Q:B 0=0)(U:∀k,k<m->(if B k<F k then F k else B k)=B (k+1))(hb:∀k,k<=m->B k<=100000/\F k<=100000)
  (Y:∀k,k<m->∃D E x C n c',J.getD k []=XC D E x C n c'/\∀w',Below w.heap.size w w'->Calls Tryz.prog 128 #[.agg #[.int .i64 D,.string E,.int .i64 x,.slice none 0 0,.slice C n c']] w' (T6 w' (F k:Nat))):
  Calls Tryz.prog 128 #[.agg #[.int .i64 3,.string nm,.int .i64 0,.slice none 0 0,.slice A m c]] w (T6 w (B m+1:Nat)):=by
 have d:=zh W;have f:=zh X;have g:=zh Y;clear W X Y;have N:=zh (Blk.new w 43 (XBk nm (.slice A m c)));have P:=zh (aF w (.cells (XBk nm (.slice A m c)).toArray 43));unfold XBk at N P;go_enter Tryz.func128,Tryz.ntmps128;go_upto_region 1 with fail;generalize w.alloc (.cells #[.int .i64 3,.string nm,.int .i64 0,.slice none 0 0,.slice A m c] 43)=w0 at*;obtain⟨μ,ν,ξ,π,ρ,_,_,_,_,_⟩:=N.five;have b:=zh U;have L:=zh hb;have Z:=zh Q;clear U hb Q;go_wp2_with fail;go_loopw [2,3,15] (fun q o i wr=>∃k:Nat,k<=m/\q=.int .i64 (B k:Nat)/\o=.bool true/\i=.int .i64 (k:Int)/\Hid (Below w.heap.size w wr)) (fun _ _ i _=>m-(intOf i).toNat)
 case atStart=>exact⟨0,aZ5 _,by rw[Z.out];rfl,rfl,rfl,P⟩
 case round=>
  obtain⟨k,p,rfl,rfl,rfl,G⟩:=hrel;by_cases I:k<m
  .obtain⟨D,E,x,C,n,c',T,S⟩:=g.out k I;obtain⟨κ,rfl,t,u,v,y,δ⟩:=(d.below G zr).xc (k:=k) (by rw[f.out];exact I) T;have a:=zh S;clear T S;have h:=zh (Blk.new wr 43 [.int .i64 D,.string E,.int .i64 x,.slice none 0 0,.slice C n c']);have M:=zh (aA G (aF wr (.cells [.int .i64 D,.string E,.int .i64 x,.slice none 0 0,.slice C n c'].toArray 43)));go_upto_region 5 with fail;generalize wr.alloc (.cells #[.int .i64 D,.string E,.int .i64 x,.slice none 0 0,.slice C n c'] 43)=w2 at*;clear t u v y δ;obtain⟨ε,ζ,η,θ,ι,_,_,_,_,_⟩:=h.five;go_wp2_with fail;refine(a.out w2 M).mono ?_;rintro e σ ⟨rfl,R⟩;have K:=zh (aA M R);clear R ε ζ η θ ι;obtain⟨j,l⟩:=L.out k p;have O:=zh (b k I);generalize B k=s at*;generalize F k=z at*;by_cases V:s<z
   .have H:Hid (B (k+1)=z):=aD (by rw[<-O.out,if_pos V]);have r:(s:Int)<(z:Int):=by omega
    go_wp2_with fail;exact⟨⟨k+1,by omega,by rw[H.out],rfl,by push_cast;rfl,K⟩,by simp only[intOf];omega⟩
   .have H:Hid (B (k+1)=s):=aD (by rw[<-O.out,if_neg V]);have r:¬(s:Int)<(z:Int):=by omega
    go_wp2_with fail;exact⟨⟨k+1,by omega,by rw[H.out],rfl,by push_cast;rfl,K⟩,by simp only[intOf];omega⟩
  .obtain rfl:m=k:=by omega
   obtain⟨j,l⟩:=L.out m zr;generalize B m=s at*;go_wp2_with fail;go_ret2;exact⟨by push_cast;rfl,G.out⟩
end Go.Proofs.YtpfhoemohibniaaGreatDoor
