/- WholeLocality, its tied card: for every code and every position, and with the three listed tables laid as the program's text lays them, the law returns true; each argument reads behind the call as it read before. No condition beside the card's own. The walk is in WLoc. -/
import Derived.Test.YtpfhoemohibniaaGreatDoorZA48
import Derived.Test.YtpfhoemohibniaaGreatDoorCards
import Derived.Test.YtpfhoemohibniaaGreatDoorTie
import Derived.LaidMore
import Derived.LaidHandle
import Derived.LaidOnce
import Derived.SevenTiedAt
import Derived.Stop.Joined
set_option maxRecDepth 100000
set_option linter.unusedSimpArgs false
set_option linter.unusedVariables false
set_option maxHeartbeats 32000000
namespace Go.Proofs.YtpfhoemohibniaaGreatDoor
open Go.RowKit
section
variable {O:aO} {q:Int} (hO:O.Fld q) {n:Nat} {gen:LL} {p:LI}
include hO
theorem TO(hA:dP O q n gen p){i:Nat}(hi:i<n){T:List Nat}(hT:∀j,j∈T->j<n/\j≠i)(F:kF O gen i T):∃h,dC O q gen n h/\h i=1/\cC (fun j=>decide (j≠i)&&decide (h j≠0)) n<=T.length:=by obtain⟨h,C,D,E⟩:=(DG hO hA.rows hi (fun t G=>(hT t G).1) (fun hm=>(hT i hm).2 rfl)).1 F;refine⟨h,C,D,?_⟩;rw[<-mA];refine oJ (List.Pairwise.filter _ List.nodup_range) fun a B=>?_;rw[List.mem_filter] at B;have A:=B.2;rw[aY9,decide_eq_true_eq,decide_eq_true_eq] at A;exact E a A.1 A.2
theorem TN(hA:dP O q n gen p){i:Nat}(hi:i<n){h:Nat->Int}(D:dC O q gen n h)(E:h i=1):∃T:List Nat,(∀j,j∈T->j<n/\j≠i)/\T.length=cC (fun j=>decide (j≠i)&&decide (h j≠0)) n/\kF O gen i T:=by
 have hm:∀j,j∈(List.range n).filter (fun j=>decide (j≠i)&&decide (h j≠0))->j<n/\j≠i:=fun j A=>by rw[List.mem_filter,List.mem_range,aY9,decide_eq_true_eq,decide_eq_true_eq] at A;exact⟨A.1,A.2.1⟩
 refine⟨_,hm,mA _ _,(DG hO hA.rows hi (fun t B=>(hm t B).1) (fun B=>(hm i B).2 rfl)).2 ⟨h,D,E,fun j A C=>?_⟩⟩;rw[List.mem_filter,List.mem_range,aY9,decide_eq_true_eq,decide_eq_true_eq];refine⟨?_,A,C⟩;refine aY0 fun F=>C (D.2.1 j (by omega))
theorem XG(hA:dP O q n gen p){i:Nat}(hi:i<n){m l:Nat}(hm:KT O q gen n i m){T:List Nat}(hT:∀j,j∈T->j<n/\j≠i)(N:T.length=l)(E:kF O gen i T)(D:NoL O gen n i l):l=m:=by obtain⟨h,B,C,K⟩:=TO hO hA hi hT E;have L:=hm.2 h B C;obtain⟨k,G,H,P⟩:=hm.1;obtain⟨A,I,Q,J⟩:=TN hO hA hi G H;have M:¬A.length<l:=fun F=>D A I F J;omega
theorem UJ (hA : dP O q n gen p) (G : 0 < gen.length) {r d : Nat} (C : 0 < r) (H : ∀ i, i < n -> ∃ h, dC O q gen n h /\ h i = 1 /\ cC (fun j => decide (j ≠ i) && decide (h j ≠ 0)) n <= r) (F : PR O n gen d) :
   (d:Int)<=(n:Int)-(gen.length:Int)-(((gen.length+r-1)/r:Nat):Int)+2:=by
 obtain⟨x,I,D,J⟩:=RT hO hA G C fun i hi=>by obtain⟨h,A,B,E⟩:=H i hi;exact⟨h,A,by rw[B];decide,E⟩
 have A:=F.2.2 x I D;unfold cB at A;have B:(gen.length+r-1)/r=(gen.length-1)/r+1:=by rw[show gen.length+r-1=gen.length-1+r by omega,Nat.add_div_right _ C]
 omega
end
theorem TW(w:World)(P M n i:Int)(mv gv:Value)(Mod:LI)(gen:LL)(hm:SI w mv Mod)(hg:SS w gv gen)(hn:I64 n):
  Calls Tryz.prog 3 #[.agg #[.int .i64 P,.int .i64 M,mv,.int .i64 n,gv],.int .i64 i] w (sG w true):=by
 have Aj:Hid (∀w',Below w.heap.size w w'->Calls Tryz.prog 5 #[.agg #[.int .i64 P,.int .i64 M,mv,.int .i64 n,gv],.int .i64 7,.int .i64 256] w' (fun e w2=>∃r,e=.returned (.bool r)/\Below w'.heap.size w' w2/\(r=true->cS P M Mod n gen=0/\n<=7/\aC P M^gen.length<=256/\aC P M^(n.toNat-gen.length)<=256))):=aD fun w' hb=>
  TV w' P M n mv gv Mod gen (hg.below hb zr) hn (fun w2 p=>GZ w2 P M n mv gv Mod gen ((hm.below hb zr).below p zr) ((hg.below hb zr).below p zr)) fun h=>by
   obtain⟨Cj,f,g,Ci,hR,Bq⟩:=iL h;have Bt:n=((n.toNat:Nat):Int):=by omega
   rw[Bt] at h;have hC:=fH.mk' h;have Cr:=aK P M;have Cs:=hC.O.lt.pos;have Co:=hC.kn;exact⟨by omega,by omega,by omega,by omega,by omega⟩
 have θ:=zh hm;have ζ:=zh hg;obtain⟨An,Az,rfl,_⟩:=hm;obtain⟨Ag,Aq,rfl,_⟩:=hg;have Ah:=zh (dD.mk' w P M (.slice An Mod.length Az) n (.slice Ag gen.length Aq));go_enter Tryz.func3,Tryz.ntmps3;go_upto_region 1 with fail;generalize w.alloc (.cells #[.int .i64 P,.int .i64 M,.slice An Mod.length Az,.int .i64 n,.slice Ag gen.length Aq] 27)=w0 at*;go_wp2_with fail;refine(L7 w0).mono ?_;rintro e w1 ⟨rfl,As⟩;have δ:=zh (Ah.on As);clear As Ah;obtain⟨A,B,C,D,E,_,_,_,_,_⟩:=δ.blk.five;go_wp2_with fail;refine(Aj.out w1 δ.bel).mono ?_;rintro e w2 ⟨Bz,rfl,p,S⟩;have U:=zh (δ.on p);clear p δ A B C D E;obtain⟨A,B,C,D,E,_,_,_,_,_⟩:=U.blk.five;cases Bz
 .clear S;have G:=zh U.bel;go_wp2_with fail;go_ret;exact⟨rfl,G.out⟩
 .have S:=S rfl;by_cases Ck:gen.length=0
  .have Br:((gen.length:Int)==0)=true:=by rw[beq_iff_eq];omega
   clear S;have G:=zh U.bel;go_wp2_with fail;go_ret;exact⟨rfl,G.out⟩
  .have Br:((gen.length:Int)==0)=false:=by rw[beq_eq_false_iff_ne];omega
   by_cases Cl:i<0
   .clear S;have G:=zh U.bel;go_wp2_with fail;go_ret;exact⟨rfl,G.out⟩
   .by_cases Cm:n<=i
    .clear S;have G:=zh U.bel;go_wp2_with fail;go_ret;exact⟨rfl,G.out⟩
    .obtain⟨ω,Cq,hqk,l⟩:=S;obtain⟨F,rfl⟩:∃F:Nat,n=(F:Int):=⟨n.toNat,by have:=(iL ω).2.1;omega⟩
     obtain⟨Q,rfl⟩:∃Q:Nat,i=(Q:Int):=⟨i.toNat,by omega⟩
     have hC:=fH.mk' ω;have k:Q<F:=by omega
     have μ:F<=7:=by omega
     obtain⟨q,hq⟩:∃q:Nat,aC P M=(q:Int):=⟨(aC P M).toNat,by have:=aK P M;omega⟩
     rw[hq,aZ8] at l;rw[hq] at hqk;have hqk:q^gen.length<=256:=by exact_mod_cast hqk
     have l:q^(F-gen.length)<=256:=by exact_mod_cast l
     have Aa:0<gen.length:=by omega
     have Bs:=hC.kn;have Ak:=zh (fun(w':World) (hb:Below w.heap.size w w')=>NL w' P M F q _ _ Mod gen _ (θ.below hb zr) (ζ.below hb zr) hC hq l Q k μ);have Am:=zh (fun(w':World) (lv:Value) (hb:Below w.heap.size w w') (u:SI w' lv (zl [Q]))=>S4 w' P M F Q _ _ lv Mod gen _ (θ.below hb zr) (ζ.below hb zr) hC k μ u);have η:=zh (fun(w':World) (hb:Below w.heap.size w w')=>EB w' P M F q _ _ Mod gen _ (θ.below hb zr) (ζ.below hb zr) hC hq l μ);have y:=zh (fun(w':World) (hb:Below w.heap.size w w')=>GE w' P M F q _ _ Mod gen _ (θ.below hb zr) (ζ.below hb zr) hC Aa μ hq hqk);have x:=zh (fun(w':World) (r:Nat) (f:1<=r) (g:r<=F)=>NM w' F gen.length r (by omega) Aa Bs f g);have σ:=zh hC.rr;have ρ:=zh hC.O;have z:=zh (fun(r d:Nat) (S:0<r) (Z:∀i,i<F->∃h,dC (aB P M Mod) (aC P M) gen F h/\h i=1/\cC (fun j=>decide (j≠i)&&decide (h j≠0)) F<=r) (R:PR (aB P M Mod) F gen d)=>UJ hC.O hC.rr Aa S Z R);clear hC ω hqk l hq Aj;go_wp2_with fail;refine(Ak.out w2 U.bel).mono ?_;rintro e ξ ⟨Ct,Cu,Ce,rfl,Ay,At⟩;have ε:=zh (U.on At);clear At U A B C D E Ak;obtain⟨A,B,C,D,E,_,_,_,_,_⟩:=ε.blk.five;have τ:=zh Ay;clear Ay;have π:=zh (aF ξ (.cells #[.int .i64 (Q:Int)] 3));have Al:Hid (SI (ξ.alloc (.cells #[.int .i64 (Q:Int)] 3)) (.slice (some ⟨ξ.heap.size,0,none⟩) 1 1) (zl [Q])):=aD (RI.si (xs:=zl [Q]) (Blk.new ξ 3 [.int .i64 (Q:Int)]) (by simp[zl]) (fG (n:=F) (by omega) fun t Bv=>by rw[List.mem_singleton.1 Bv];exact k));go_wp2_with fail;refine(Am _ _ (aA ε.bel π) Al).mono ?_;rintro e Cc ⟨⟨Bg,Bh,Bi,Bj,Bw,Bk,ν,Bl,Bx,Bm,By,Bn,d,Cf,rfl,Ax⟩,Au⟩;have Ai:=zh (ε.on (aA π Au));have ι:=zh Ax;clear Au Ax ε π Al A B C D E Am;go_upto_region 7 with fail;obtain⟨Bf,Ch,Ao,Ap,Ar,Av⟩:=bB Cc 34 [.slice Bg Bw Bk,.slice Bh ν Bl,.slice Bi Bx Bm,.bool d,.slice Bj By Bn];rw[Ao,Ap];have W:=zh (Ai.on Av);obtain⟨Ba,Bb,Bc,Bd,Be,_,_,_,_,_⟩:=Ar.five;clear Ao Ap Ar Av Ai;obtain⟨A,B,C,D,E,_,_,_,_,_⟩:=W.blk.five;rcases τ.out with⟨rfl,Aw⟩|⟨rfl,Cd,m,Bq,rfl,χ⟩
     .rcases ι.out with⟨rfl,Ad⟩|⟨rfl,rfl,T,hT,u,κ,ψ⟩
      .clear Aw Ad τ ι;go_wp2_with fail;refine(η.out Bf W.bel).mono ?_;rintro e v ⟨r,Bo,rfl,Ab,s⟩;have I:=zh (W.on s);clear s W A B C D E Ba Bb Bc Bd Be η;obtain⟨A,B,C,D,E,_,_,_,_,_⟩:=I.blk.five;rcases Ab with rfl|⟨rfl,Bu,Z⟩
       .have G:=zh I.bel;go_wp2_with fail;go_ret;exact⟨rfl,G.out⟩
       .have o:=zh Z;clear Z;by_cases Bp:(1:Int)<=(r:Int)
        .go_wp2_with fail;refine(x.out v r (by omega) (by omega)).mono ?_;rintro e c ⟨rfl,J⟩;have N:=fun d R=>z.out r d (by omega) (fun j Y=>by obtain⟨h,a,b,Ae⟩:=o.out j Y;exact⟨h,a,b,by omega⟩) R;generalize (F:Int)-(gen.length:Int)-(((gen.length+r-1)/r:Nat):Int)+2=φ at*;have H:=zh (I.on J);have V:=zh N;clear J N A B C D E I;obtain⟨A,B,C,D,E,_,_,_,_,_⟩:=H.blk.five;go_wp2_with fail;refine(y.out c H.bel).mono ?_;rintro e Af ⟨X,rfl,L,K⟩;have Ac:=V.out X L;have G:=zh (H.on K).bel;clear L K H A B C D E;go_wp2_with fail;go_ret;exact⟨rfl,G.out⟩
        .go_wp2_with fail;refine(x.out v 1 (by omega) (by omega)).mono ?_;rintro e c ⟨rfl,J⟩;have N:=fun d R=>z.out 1 d (by omega) (fun j Y=>by obtain⟨h,a,b,Ae⟩:=o.out j Y;exact⟨h,a,b,by omega⟩) R;generalize (F:Int)-(gen.length:Int)-(((gen.length+1-1)/1:Nat):Int)+2=φ at*;have H:=zh (I.on J);have V:=zh N;clear J N A B C D E I;obtain⟨A,B,C,D,E,_,_,_,_,_⟩:=H.blk.five;go_wp2_with fail;refine(y.out c H.bel).mono ?_;rintro e Af ⟨X,rfl,L,K⟩;have Ac:=V.out X L;have G:=zh (H.on K).bel;clear L K H A B C D E;go_wp2_with fail;go_ret;exact⟨rfl,G.out⟩
      .exfalso;obtain⟨h,f,g,_⟩:=TO ρ.out σ.out k hT κ;exact Aw h f g
     .rcases ι.out with⟨rfl,Ad⟩|⟨rfl,rfl,T,hT,u,κ,ψ⟩
      .exfalso;obtain⟨h,f,g,_⟩:=χ.1;obtain⟨T,Ca,_,Cb⟩:=TN ρ.out σ.out k f g;exact Ad T Ca Cb
      .obtain rfl:ν=m:=XG ρ.out σ.out k χ hT u κ ψ;have Cp:((ν:Int) !=(ν:Int))=false:=by simp
       clear χ hT u κ ψ τ ι;go_wp2_with fail;refine(η.out Bf W.bel).mono ?_;rintro e v ⟨r,Bo,rfl,Ab,s⟩;have I:=zh (W.on s);clear s W A B C D E Ba Bb Bc Bd Be η;obtain⟨A,B,C,D,E,_,_,_,_,_⟩:=I.blk.five;rcases Ab with rfl|⟨rfl,Bu,Z⟩
       .have G:=zh I.bel;go_wp2_with fail;go_ret;exact⟨rfl,G.out⟩
       .have o:=zh Z;clear Z;by_cases Bp:(1:Int)<=(r:Int)
        .go_wp2_with fail;refine(x.out v r (by omega) (by omega)).mono ?_;rintro e c ⟨rfl,J⟩;have N:=fun d R=>z.out r d (by omega) (fun j Y=>by obtain⟨h,a,b,Ae⟩:=o.out j Y;exact⟨h,a,b,by omega⟩) R;generalize (F:Int)-(gen.length:Int)-(((gen.length+r-1)/r:Nat):Int)+2=φ at*;have H:=zh (I.on J);have V:=zh N;clear J N A B C D E I;obtain⟨A,B,C,D,E,_,_,_,_,_⟩:=H.blk.five;go_wp2_with fail;refine(y.out c H.bel).mono ?_;rintro e Af ⟨X,rfl,L,K⟩;have Ac:=V.out X L;have G:=zh (H.on K).bel;clear L K H A B C D E;go_wp2_with fail;go_ret;exact⟨rfl,G.out⟩
        .go_wp2_with fail;refine(x.out v 1 (by omega) (by omega)).mono ?_;rintro e c ⟨rfl,J⟩;have N:=fun d R=>z.out 1 d (by omega) (fun j Y=>by obtain⟨h,a,b,Ae⟩:=o.out j Y;exact⟨h,a,b,by omega⟩) R;generalize (F:Int)-(gen.length:Int)-(((gen.length+1-1)/1:Nat):Int)+2=φ at*;have H:=zh (I.on J);have V:=zh N;clear J N A B C D E I;obtain⟨A,B,C,D,E,_,_,_,_,_⟩:=H.blk.five;go_wp2_with fail;refine(y.out c H.bel).mono ?_;rintro e Af ⟨X,rfl,L,K⟩;have Ac:=V.out X L;have G:=zh (H.on K).bel;clear L K H A B C D E;go_wp2_with fail;go_ret;exact⟨rfl,G.out⟩
theorem YG(w:World){v:Value}(h:∃P M mv Mod n gv gen,v=.agg #[.int .i64 P,.int .i64 M,mv,.int .i64 n,gv]/\I64 n/\SI w mv Mod/\SS w gv gen)(i:Int):Calls Tryz.prog 3 #[v,.int .i64 i] w (sG w true):=by obtain⟨P,M,mv,Mod,n,gv,gen,rfl,hn,hm,hg⟩:=h;exact TW w P M n i mv gv Mod gen hm hg hn
end Go.Proofs.YtpfhoemohibniaaGreatDoor
namespace Go.Proofs.YtpfhoemohibniaaGreatDoor.wholeLocality
open Go.ChangeShapes Go.WideShapes Go.ChangeAt Go.RowKit
def LB:List (String×DataW Unit):=[("math/bits.deBruijn32tab",Rows.laid_math_bits_deBruijn32tab),("math/bits.deBruijn64tab",Rows.laid_math_bits_deBruijn64tab),("internal/strconv.uint64pow10",Rows.laid_internal_strconv_uint64pow10)]
theorem QQ(os:Os)(args:Array Value):laidMetH Tryz.prog LB ((World.doorLaid Tryz.prog 24 os).forCall (fun _ _=>0) ⟨#[],args,[]⟩).memory:=
 laidMetH_of_parts3 (fuel:=8) (laidMet_of_run' 8 (by kernel_rfl) (by kernel_rfl)) (by kernel_rfl) (by kernel_rfl)
theorem lifted(os:Os)(Z:os.Started)(H:Type)(enc:TypeId×Value->H):
  ReturnsInHanded {} Tryz.checked os 3 .any (fun w args=>(Rows.wholeLocalitySpec.pre enc Tryz.prog Tryz.f3 [] false w args/\laidMetH Tryz.prog LB w)/\sizedMet enc Tryz.prog Tryz.f3 (OpenSpec.ofChange Rows.wholeLocalitySpec) false w args)
   (Rows.wholeLocalitySpec.post enc Tryz.prog Tryz.f3 false true false false):=by
 refine returnsInHanded_of_change_and (C:=Tryz.checked) (X:=fun w _=>laidMetH Tryz.prog LB w) (fun _ _ _ S h=>h.of_heap S) own Z (by kernel_rfl) Tryz.func3
  (ChangeSpec.witness_shaped (enc:=enc) (C:=Tryz.checked) (os:=os) (X:=fun w _=>laidMetH Tryz.prog LB w) false (World.doorLaid Tryz.prog 24 os) #[.agg #[.int .i64 0,.int .i64 0,.slice none 0 0,.int .i64 0,.slice none 0 0],.int .i64 0] 8 rfl (World.shaped_of_RefB (by kernel_rfl) (by kernel_rfl)) (by kernel_rfl) (by kernel_rfl) (by kernel_rfl) (QQ os _)) ?_
 intro W base args ds N b I F _ T _ _;have G:(DataW.weightsEach Tryz.prog (Tryz.f3.params.toList++Rows.wholeLocalitySpec.plain.varTypes Tryz.prog) (ds++N)).all (·<=reachBytes)=true:=T;have A:∀(j:Nat) t v,Tryz.f3.params[j]?=some t->args[j]?=some v->Value.okWide Tryz.prog W .any base t v:=I;have Q:=F;obtain⟨p,q,E,P,rfl,k,l⟩:=F;have hA:DataW.TrodAll enc Tryz.prog W 0 (fun _=>true) true Tryz.f3.params.toList args.toList ds p:=E;rw[Tryz.params3] at hA A G;obtain⟨K,s,c,f,m,o,i,rfl,rfl,D,V⟩:=trodAll_cons hA;obtain⟨L,u,d,g,n,r,rfl,rfl,rfl,O,Y⟩:=trodAll_cons V;obtain⟨rfl,rfl,rfl⟩:=trodAll_nil Y;obtain rfl:args=#[K,L]:=by cases args;simp_all
 obtain⟨rfl,rfl⟩:=trodVars_none P;have J:=D;have U:=N6 D (A 0 27 K rfl rfl) (YF G 0 rfl rfl);obtain⟨M,rfl,rfl,rfl,w1⟩:=open_int Tryz.underlying3 (A 1 3 L rfl rfl) O;clear E I;refine(YG W U M).mono fun e a ⟨R,B⟩=>?_;subst R;exact⟨_,rfl,_,_,_,[],_,[],Q,trodAll_mk1 (shut_bool Tryz.underlying4 _),(trodAll_cons_mk (Below.trod UZ (by kernel_rfl) (of_decide_eq_true (by kernel_rfl)) J B (JM J)) (trodAll_cons_mk (shut_int Tryz.underlying3 w1) trodAll_mk0)),rfl,B.frame _,fun h=>by cases h⟩
theorem OX:Rows.WholeLocalitySaid:=
 OpenClaim.holds_of_wide 3 Tryz.f3 rfl rfl rfl rfl rfl rfl rfl ⟨rfl,rfl,rfl,rfl,rfl⟩ rfl rfl rfl rfl rfl (by kernel_rfl) Tryz.func3 UI
  (of_decide_eq_true (by kernel_rfl)) (by unfold Func.isWrapper;first|(rw[if_pos (by decide+kernel)];kernel_rfl)|(rw[if_neg (by decide+kernel)];exact⟨rfl,rfl⟩))
  (fun os A H enc _=>lifted os A H enc)
theorem EI:Tryz.prog.funcs.any Func.goes=false:=by kernel_rfl
theorem NE(P:Program)(h:P.funcs.any Func.goes=false)(C:String):P.goesFrom C=false:=by
 have D:∀f,P.goes f=false:=fun f=>by
  unfold Program.goes;rw[h,Bool.and_false,Bool.or_false,Bool.eq_false_iff];intro A;rw[List.any_eq_true] at A;obtain⟨g,_,hg⟩:=A;cases e:P.funcs[g]? with
  |none=>rw[e] at hg;exact Bool.noConfusion hg
  |some fn=>
   rw[e] at hg;have E:Func.goes fn=true:=hg;obtain⟨G,F⟩:=Array.getElem?_eq_some_iff.1 e;have B:P.funcs.any Func.goes=true:=by rw[Array.any_eq_true];exact⟨g,G,by rw[F];exact E⟩
   rw[h] at B;exact Bool.noConfusion B
 unfold Program.goesFrom;cases P.funcNamed C with
 |none=>rfl
 |some f=>exact D f
theorem MK:false=Rows.wholeLocalityRow.goesBy Tryz.pinned.checked.prog:=by
 have h:=NE Tryz.prog EI "codewright/codewrighttop.WholeLocality";show false=(Tryz.prog.goesFrom "codewright/codewrighttop.WholeLocality" ||false)
 rw[h];rfl
theorem proved:Rows.WholeLocalityCardSaid:=
 Claim7.holds_tied_plain_at .later [] [.data,.data,.data] true (true, "1ec97e4099825dc708d7565c0690986d26bca84e8850bae13054544cd4e6c40f") true
  OX (fun _ h=>by cases h) (by kernel_rfl) (fun _ h=>by cases h) wholeLocality_row_tie rfl ⟨rfl,rfl⟩ (by kernel_rfl) rfl
  (fun f fn C D=>by
   obtain rfl:f=3:=aZ0 ((show Tryz.prog.funcNamed "codewright/codewrighttop.WholeLocality" =some 3 by kernel_rfl).symm.trans C)|>.symm;obtain rfl:fn=Tryz.f3:=(aZ0 (Tryz.func3.symm.trans D)).symm;exact⟨by kernel_rfl,fun j t A=>by
    rw[Tryz.params3] at A;have hm:t∈[27,3]:=by simpa using Array.mem_of_getElem? A
    have B:([27,3].all fun u=>!Tryz.prog.wantsStandIn u)=true:=by kernel_rfl
    exact(show Tryz.prog.wantsStandIn t=false by simpa using List.all_eq_true.1 B t hm)⟩)
  MK
#print axioms proved
end Go.Proofs.YtpfhoemohibniaaGreatDoor.wholeLocality
