/- Texts of a claim, merged. -/
import Derived.Test.YtpfhoemohibniaaGreatDoorZA26
import Derived.Test.YtpfhoemohibniaaGreatDoorZA36
set_option maxRecDepth 100000
set_option maxHeartbeats 32000000
namespace Go.Proofs.YtpfhoemohibniaaGreatDoor
open Go.RowKit
structure ICQ(w w1:World)(P M:Int)(mv:Value)(n:Int)(gv:Value):Prop where
 cb:dD w w1 P M mv n gv
 q:Blk w1 (w.heap.size+1) 86 [.int .i64 0,.slice none 0 0]
theorem ICQ.on{w w1 w2:World}{P M:Int}{mv:Value}{n:Int}{gv:Value}(h:ICQ w w1 P M mv n gv)(hb:Below w1.heap.size w1 w2):ICQ w w2 P M mv n gv:=⟨h.cb.on hb,h.q.belowS hb⟩
theorem ICQ.mk'(w:World)(P M:Int)(mv:Value)(n:Int)(gv:Value):∃w1,((w.alloc (.cells #[.int .i64 P,.int .i64 M,mv,.int .i64 n,gv] 27)).alloc (.cells #[.int .i64 0,.slice none 0 0] 86))=w1/\
  ICQ w w1 P M mv n gv/\w1.heap.size=w.heap.size+1+1:=by
 refine⟨_,rfl,⟨(dD.mk' w P M mv n gv).on (aF _ _),?_⟩,?_⟩
 .have:=Blk.new (w.alloc (.cells #[.int .i64 P,.int .i64 M,mv,.int .i64 n,gv] 27)) 86 [.int .i64 0,.slice none 0 0];rw[World.size_alloc] at this;exact this
 .rw[World.size_alloc,World.size_alloc]
section
variable {O:aO} {q:Int} (hO:O.Fld q)
include hO
theorem V5{gen:LL}{S:List Nat}(B:S.length=gen.length)(hq:gW q gen):lfM gen.length (dQ gen S)=dH gen (zl S):=by
 refine kL (by rw[tC,dR,dX]) fun i hi=>?_;rw[tC,dR] at hi;have E:=(nS hO hq S i (by rw[dR];exact hi)).1;rw[uR,show(dH gen (zl S)).getD i []=nB (gen.getD i []) (zl S) by unfold dH;simp[List.getD,hi]];refine List.ext_getElem (by rw[aY3,E,jA,aY,B];omega) fun j F A=>?_;rw[jA,aY,B] at A;have C:((dQ gen S).getD i []).getD j 0=ent gen i (S.getD j 0):=by have:=oX (S:=S) hi (j:=j) (by omega);rw[if_pos A] at this;exact this
 have D:(nB (gen.getD i []) (zl S)).getD j 0=ent gen i (S.getD j 0):=by rw[nB,aS (by rw[aY,B];exact A),gJ (by omega),aZ8];rfl
 rw[List.getElem_take];rw[aZ4,aZ3 (by rw[E];omega)] at C;rw[aZ4,aZ3 (by rw[jA,aY,B];exact A)] at D;exact C.trans D.symm
theorem V6{gen:LL}{S:List Nat}(hq:gW q gen):rgM gen.length (dQ gen S)=BQ gen.length gen.length:=by
 refine kL (by rw[pL,dR,rH]) fun i hi=>?_;rw[pL,dR] at hi;have D:=(nS hO hq S i (by rw[dR];exact hi)).1;rw[sP,EY _ _ _ hi];refine List.ext_getElem (by rw[List.length_drop,D,oT];omega) fun j E A=>?_;rw[oT] at A;have B:((dQ gen S).getD i []).getD (gen.length+j) 0=if i=j then 1 else 0:=by
  have:=oX (S:=S) hi (j:=gen.length+j) (by omega);rw[if_neg (by omega)] at this;refine this.trans ?_;by_cases e:i=j
  .rw[if_pos e,if_pos (by omega)]
  .rw[if_neg e,if_neg (by omega)]
 have C:=TQ (n:=gen.length) (p:=i) A;rw[List.getElem_drop];rw[aZ4,aZ3 (by rw[D];omega)] at B;rw[aZ4,aZ3 (by rw[oT];exact A)] at C;exact B.trans C.symm
theorem JU{n:Nat}{C rows:LL}(hR:Rows q n rows)(hC:Rows q rows.length C):dY O (mmL O C rows n) rows:=fun i hi=>by rw[mX] at hi;exact⟨fun k=>ent C i k,fun j=>xQ hO hR hC hi j⟩
omit hO in
theorem VS{L N:Nat}{J:LL}(h:Rows q N J):Rows q (N-L) (rgM L J):=fun i hi=>by rw[pL] at hi;rw[sP];refine⟨by rw[List.length_drop,(h i hi).1],fun k=>?_⟩;rw[iM];exact(h i hi).2 (L+k)
end
theorem WP(L:Nat)(J:LL)(l j:Nat):ent (rgM L J) l j=ent J l (L+j):=by unfold ent;rw[sP,iM]
section
variable {w:World} {P M:Int} {n:Nat} {mv gv sv:Value} {Mod:LI} {gen:LL} {p:LI} {S:List Nat}
theorem UX(hm:SI w mv Mod)(hg:SS w gv gen)(t:SI w sv (zl S))(hC:fH P M Mod n gen p)(A:DN (aB P M Mod) n gen S)(Ar:0<gen.length):
   Calls Tryz.prog 60 #[.agg #[.int .i64 P,.int .i64 M,mv,.int .i64 (n:Int),gv],sv] w (fun e w'=>∃G,AX (aB P M Mod) n gen S G/\(Rows (aC P M) n G/\dY (aB P M Mod) G gen)/\mR w n G e w'):=by
 have hO:=hC.O;have o:=nS hO hC.q S;have i:=lQ hO.lt o gen.length (show aI (aB P M Mod) (dQ gen S) gen.length=((aI (aB P M Mod) (dQ gen S) gen.length).1,(aI (aB P M Mod) (dQ gen S) gen.length).2) from rfl);have Au:=hC.n64;have As:=hC.kn;have V:Rows (aC P M) gen.length (rgM gen.length (aI (aB P M Mod) (dQ gen S) gen.length).1):=by have:=VS (L:=gen.length) i.1;rwa[Nat.add_sub_cancel] at this
 have U:(rgM gen.length (aI (aB P M Mod) (dQ gen S) gen.length).1).length=gen.length:=by rw[pL,i.2.1,dR]
 obtain⟨T,hT⟩:∃T,T=rgM gen.length (aI (aB P M Mod) (dQ gen S) gen.length).1:=⟨_,rfl⟩
 have a:Hid (AX (aB P M Mod) n gen S (mmL (aB P M Mod) T gen n)/\(Rows (aC P M) n (mmL (aB P M Mod) T gen n)/\dY (aB P M Mod) (mmL (aB P M Mod) T gen n) gen)):=aD ⟨UW hO hC.rr A.len A.gen (by rw[mX,hT,U]) (fun l At j=>by rw[xQ hO hC.rr.rows (by rw[hT];exact V) (by rw[hT,U];exact At)];congr 1;funext m;rw[hT,WP]),qS hO,JU hO hC.rr.rows (by rw[hT];exact V)⟩;have I:Hid (∀w',Below w.heap.size w w'->Calls Tryz.prog 57 #[.agg #[.int .i64 P,.int .i64 M,mv],.agg #[.int .i64 (n:Int),gv],sv] w' (mR w' gen.length (dH gen (zl S)))):=aD fun w' hb=>by
   have:=qQ w' P M n mv gv sv Mod (zl S) gen (hm.below hb zr) (hg.below hb zr) (t.below hb zr) hC.mat (fun k Aj=>⟨(A.ris k Aj).1,(A.ris k Aj).2.1⟩) (by rw[aY,A.len];omega)
   rwa[aY,A.len] at this
 have c:Hid (∀w' u,Below w.heap.size w w'->SS w' u (dH gen (zl S))->Calls Tryz.prog 118 #[.agg #[.int .i64 P,.int .i64 M,mv],.agg #[.int .i64 (gen.length:Int),u]] w' (mR w' gen.length T)):=aD fun w' u hb z=>by
   have:=GB w' P M gen.length mv u Mod (dH gen (zl S)) (dQ gen S) (hm.below hb zr) z (jI hC.fld (by omega) (by rw[dX];omega) (by have:=rP (by have:=hO.lt.pos;omega) hC.rr.rows (zl S);rwa[aY,A.len] at this)) (dX _ _) Ar (by omega) o (V5 hO A.len hC.q) (V6 hO hC.q) (FA hO hC.rr A.len A.gen);rwa[<-hT] at this
 have d:Hid (∀w' u,Below w.heap.size w w'->SS w' u T->Calls Tryz.prog 94 #[.agg #[.int .i64 P,.int .i64 M,mv],.agg #[.int .i64 (gen.length:Int),u],.agg #[.int .i64 (n:Int),gv]] w' (mR w' n (mmL (aB P M Mod) T gen n))):=aD fun w' u hb z=>LF w' P M n gen.length mv u gv Mod T gen (hm.below hb zr) z (hg.below hb zr) (jI hC.fld (by omega) (by rw[hT,U];omega) (by rw[hT];exact V)) hC.mat rfl;have τ:Hid (∀w',Below w.heap.size w w'->Calls Tryz.prog 117 #[.agg #[.int .i64 P,.int .i64 M,mv,.int .i64 (n:Int),gv],sv] w' (fun e w2=>e=.returned (.tuple #[.bool true,.int .i64 0])/\Below w'.heap.size w' w2)):=aD fun w' hb=>WR (hm.below hb zr) (hg.below hb zr) (t.below hb zr) hC A;generalize hCL:dH gen (zl S)=Ao at I c;generalize hMM:mmL (aB P M Mod) T gen n=ι at d a;clear i o V U hT hO hCL hMM;obtain⟨Bj,Bo,rfl,_⟩:=t;obtain⟨θ,Ac,rfl,_⟩:=hg;clear hm hC;rw[aY,A.len] at I τ|-;generalize gen.length=k at*;clear A As Au;obtain⟨w1,B,hq,Bn⟩:=ICQ.mk' w P M mv n (.slice θ k Ac);have K:=zh hq;have σ:=zh B;clear hq B;go_enter Tryz.func60,Tryz.ntmps60;go_upto_region 1 with fail;rw[σ.out];clear σ;obtain⟨c0,c1,C,D,E,_,_,_,_,_⟩:=K.cb.blk.five;go_wp2_with fail;refine(τ.out w1 K.cb.bel).mono ?_;rintro e w2 ⟨rfl,Ag⟩;have f:=zh (K.on Ag);clear Ag K c0 c1 C D E;obtain⟨c0,c1,C,D,E,_,_,_,_,_⟩:=f.cb.blk.five;go_upto_region 7 with fail;obtain⟨Bc,Bm,B,F,Ad,Ah⟩:=bB w2 86 [.int .i64 (n:Int),.slice θ k Ac];rw[B,F];have N:=zh (f.on Ah);have Z:=zh Ad;clear B F Ad Ah f c0 c1 C D E;obtain⟨c0,c1,C,D,E,_,_,_,_,_⟩:=N.cb.blk.five;obtain⟨x0,x1,_,_⟩:=Z.two;go_wp2_with fail;refine(I.out Bc N.cb.bel).mono ?_;rintro e Bd ⟨Bp,rfl,δ,r⟩;obtain⟨Ap,Ba,rfl,_⟩:=δ.out;have g:=zh δ.out;have φ:=zh (N.on r);have κ:=zh (Z.belowS r);clear δ r N Z c0 c1 C D E x0 x1 I;obtain⟨η,Ak⟩:∃η,η=Ao.length:=⟨_,rfl⟩
 rw[<-Ak] at g|-;clear Ak;go_upto_region 8 with fail;obtain⟨Be,g5,B,F,Ae,W⟩:=bB Bd 86 [.int .i64 (k:Int),.slice Ap η Ba];rw[B,F];have Q:=zh (φ.on W);have μ:=zh (κ.belowS W);have ψ:=zh (g.below W zr);have π:=zh Ae;clear B F Ae W φ κ g;obtain⟨c0,c1,C,D,E,_,_,_,_,_⟩:=Q.cb.blk.five;obtain⟨x0,x1,_,_⟩:=π.two;go_wp2_with fail;refine(c.out Be _ Q.cb.bel ψ).mono ?_;rintro e Bf ⟨Bq,rfl,ε,s⟩;obtain⟨Aq,Bb,rfl,_⟩:=ε.out;have h:=zh ε.out;have χ:=zh (Q.on s);have ν:=zh (μ.belowS s);clear ε s Q μ π ψ c0 c1 C D E x0 x1 c;obtain⟨lt,Am⟩:∃lt,lt=T.length:=⟨_,rfl⟩
 rw[<-Am] at h|-;clear Am;go_upto_region 11 with fail;obtain⟨Bg,g7,B,F,Af,X⟩:=bB Bf 86 [.int .i64 (k:Int),.slice Aq lt Bb];rw[B,F];have H:=zh (χ.on X);have ξ:=zh (ν.belowS X);have ω:=zh (h.below X zr);have ρ:=zh Af;clear B F Af X χ ν h;obtain⟨c0,c1,C,D,E,_,_,_,_,_⟩:=H.cb.blk.five;obtain⟨x0,x1,_,_⟩:=ρ.two;obtain⟨Bh,Bi,_,_⟩:=ξ.two;go_wp2_with fail;refine(d.out Bg _ H.cb.bel ω).mono ?_;rintro e Bs ⟨Br,rfl,ζ,Ai⟩;obtain⟨Ab,An,rfl,_⟩:=ζ.out;have Aa:=zh ζ;have R:=zh (H.on Ai);have Aw:=H.q.lt;have Av:=H.cb.bel.size;clear ζ Ai ξ ρ ω c0 c1 C D E x0 x1 Bh Bi d;obtain⟨Y,Al⟩:∃Y,Y=ι.length:=⟨_,rfl⟩
 rw[<-Al] at Aa|-;clear Al;obtain⟨Bu,Bv,Bk,Bl⟩:=R.q.two;go_wp2_with fail;obtain⟨Bt,Ax,J⟩:=oD (x:=.int .i64 (n:Int)) (y:=.slice Ab Y An) R.q;rw[Ax];have Ay:=J.c0;have Az:=J.c1;refine bodyPost_ret (v:=.tuple #[.agg #[.int .i64 (n:Int),.slice Ab Y An],.int .i64 0]) (by simp[results,Tryz.results60,go_sem,Ay,Az]) rfl ?_;exact⟨ι,a.1,a.2,_,rfl,(Aa.grown J.gr (by rintro b e;cases e;exact Aw)).mono Av,J.below R.cb.bel R.cb.bel.size (by omega)⟩
end
def jW(U:List Nat)(b:Bool)(i:Nat):List Nat:=(List.range i).filter fun j=>U.contains j==b
def BJ(U:List Nat)(n:Nat):List Nat:=jW U false n++jW U true n
theorem CX(U:List Nat)(b:Bool):jW U b 0=[]:=rfl
theorem SD{U:List Nat}{b:Bool}{i:Nat}(h:(U.contains i==b)=true):jW U b (i+1)=jW U b i++[i]:=by unfold jW;rw[List.range_succ,List.filter_append];simp only[List.filter_cons,h,if_true,List.filter_nil]
theorem VO{U:List Nat}{b:Bool}{i:Nat}(h:(U.contains i==b)=false):jW U b (i+1)=jW U b i:=by unfold jW;rw[List.range_succ,List.filter_append];simp only[List.filter_cons,h,Bool.false_eq_true,if_false,List.filter_nil,List.append_nil]
theorem vB(U:List Nat)(b:Bool)(i:Nat):(jW U b i).length<=i:=by have:=List.length_filter_le (fun j=>U.contains j==b) (List.range i);rwa[List.length_range] at this
theorem LP{U:List Nat}{b:Bool}{n i:Nat}(h:i∈jW U b n):i<n:=by unfold jW at h;rw[List.mem_filter,List.mem_range] at h;exact h.1
theorem zX(U:List Nat)(n:Nat):(BJ U n).length<=n+n:=by have A:=vB U false n;have B:=vB U true n;unfold BJ;rw[aZ1];omega
theorem xX{U:List Nat}{n i:Nat}(h:i∈BJ U n):i<n:=by
 unfold BJ at h;rcases List.mem_append.1 h with h|h
 .exact LP h
 .exact LP h
theorem GR{U:List Nat}{n i:Nat}(h:i<n):i∈BJ U n:=by
 unfold BJ jW;rw[List.mem_append,List.mem_filter,List.mem_filter,List.mem_range];cases hc:U.contains i
 .exact .inl ⟨h,by simp⟩
 .exact .inr ⟨h,by simp⟩
theorem JW(U:List Nat)(n:Nat):(BJ U n).Nodup:=by unfold BJ;rw[List.nodup_append];refine⟨(List.nodup_range).filter _,(List.nodup_range).filter _,fun a A b hb e=>?_⟩;subst e;unfold jW at A hb;rw[List.mem_filter] at A hb;have B:=A.2;have C:=hb.2;cases hc:U.contains a<;>rw[hc] at B C<;>simp at B C
theorem AW{ys:LI}{B:List Nat}(h:ys.Perm (zl B)):∃S,ys=zl S/\S.Perm B:=by
 refine⟨ys.map Int.toNat,?_,?_⟩
 .unfold zl;rw[List.map_map];conv=>lhs;rw[<-List.map_id ys]
  refine List.map_congr_left fun x C=>?_;have A:=h.mem_iff.1 C;unfold zl at A;obtain⟨i,_,rfl⟩:=List.mem_map.1 A;simp
 .have A:=h.map Int.toNat
  unfold zl at A;rw[List.map_map] at A;refine A.trans ?_;rw[show(Int.toNat∘fun(i:Nat)=>(i:Int))=id from funext fun i=>by simp,List.map_id]
theorem SZ{n:Nat}{S:List Nat}(D:nQ (zl S) S.length)(hn:S.Nodup)(C:∀i,i∈S->i<n):sR n S:=by
 intro k A;rw[aY] at A;have hm:S.getD k 0∈S:=by rw[aZ4,aZ3 A];exact aY6 A
 rw[gJ A];refine⟨by omega,by have:=C _ hm;omega,fun E=>?_⟩;have B:=D (k-1) k (by omega) A;rw[gJ (by omega),gJ A] at B;rw[gJ (by omega)];have F:S.getD (k-1) 0≠S.getD k 0:=by rw[aZ4,aZ3 (by omega),aZ4,aZ3 A];intro e;have:=(List.getElem_inj hn).1 e;omega
 omega
theorem N3{U S T:List Nat}(h:S.Perm T):mJ U S=mJ U T:=(h.filter _).length_eq
section
variable {O:aO} {q:Int} (hO:O.Fld q) {n:Nat} {gen:LL} {p:LI}
include hO
theorem WX(hA:dP O q n gen p){order C S:List Nat}(h:GrP O q gen order C)(D:∀i,i<n->i∈order)(G:∀i,i∈order->i<n)(H:order.Nodup)(B:S.Perm C)(A:nQ (zl S) S.length):DN O n gen S:=by
 have hq:gW q gen:=hA.rows.r (by have:=hO.lt.pos;omega);refine⟨?_,?_,fun i hi=>?_⟩
 .rw[B.length_eq];exact h.full hO hA D
 .exact SZ A (B.nodup_iff.2 (h.sub.nodup H)) (fun i hi=>G i (h.sub.subset (B.mem_iff.1 hi)))
 .refine(h.cov i (D i hi)).trans hO fun s A=>?_;rw[jQ] at A;obtain⟨t,E,e⟩:=List.mem_iff_getElem.1 (B.mem_iff.2 (aY6 A));have F:ent (dF gen C) s=ent (dF gen S) t:=by
   unfold ent;rw[nU A,nU E,e]
  rw[F];exact aV.row hO (by rw[jQ];exact E) fun j=>(sV hO hq S).r (by have:=hO.lt.pos;omega) t j
end
theorem wT(k w:Nat)(S:List Nat):∀(F:List (List Nat)) (U:List Nat),jU k w U (F++[S])=jU k w U F+(w+1+mJ (U++F.flatten) S-k)
 |[],U=>by simp[jU]
 |T::F,U=>by simp only[List.cons_append,jU];rw[wT k w S F (U++T),List.flatten_cons,List.append_assoc];omega
def cL(F:List (List Nat)):LI:=(List.range F.length).map fun j=>((mJ (F.take j).flatten (F.getD j []):Nat):Int)
theorem gG(F:List (List Nat)):(cL F).length=F.length:=by simp[cL]
theorem oL{F:List (List Nat)}{j:Nat}(h:j<F.length):(cL F).getD j 0=((mJ (F.take j).flatten (F.getD j []):Nat):Int):=by simp[cL,List.getD,h]
theorem uJ(k w:Nat)(F:List (List Nat)):∀m,m<=F.length->pU k w (cL F) m=jU k w [] (F.take m)
 |0,_=>by simp[pU,jU]
 |m+1,h=>by rw[pU,uJ k w F m (by omega),List.take_add_one,aZ3 (by omega:m<F.length)];simp only[Option.toList_some];rw[wT,oL (by omega),aZ8,List.nil_append,aZ4,aZ3 (by omega:m<F.length),Option.getD_some]
theorem EH(U S:List Nat):mJ U S<=S.length:=List.length_filter_le _ _
def xG(U:List Nat)(n:Nat):Nat:=cC (fun j=>U.contains j) n
theorem TR(U:List Nat)(n:Nat):xG U n<=n:=xP _ n
theorem KM{U S:List Nat}{n:Nat}(h:mJ U S≠0)(F:∀i,i∈S->i<n):xG U n<xG (U++S) n:=by
 obtain⟨i,hi⟩:∃i,i∈S.filter fun i=>!U.contains i:=by
  cases hc:S.filter (fun i=>!U.contains i) with
  |nil=>exact absurd (by unfold mJ;rw[hc];rfl) h
  |cons i l=>exact⟨i,List.mem_cons_self⟩
 rw[List.mem_filter] at hi;have E:=F i hi.1;have key:∀m,i<m->xG U m<xG (U++S) m:=by
  intro m
  induction m with
  |zero=>intro h;omega
  |succ m ih=>
   intro hm;unfold xG;simp only[cC];have G:cC (fun j=>U.contains j) m<=cC (fun j=>(U++S).contains j) m:=rO fun j _ h=>by simp only[List.contains_iff_mem,List.mem_append] at h|-;exact .inl h
   by_cases e:i=m
   .subst e;have B:U.contains i=false:=by simpa using hi.2
    have C:(U++S).contains i=true:=by simp only[List.contains_iff_mem,List.mem_append];exact .inr hi.1
    rw[if_neg (by rw[B];exact Bool.false_ne_true),if_pos C];omega
   .have B:=ih (by omega);unfold xG at B;have C:(if U.contains m=true then 1 else 0)<=(if(U++S).contains m=true then 1 else 0):=by
     by_cases A:U.contains m=true
     .have D:(U++S).contains m=true:=by simp only[List.contains_iff_mem,List.mem_append] at A|-;exact .inl A
      rw[if_pos A,if_pos D];exact Nat.le_refl _
     .rw[if_neg A];exact aZ5 _
    omega
 exact key n E
theorem Tryz.infoStep:(Tryz.prog.info? 117).map (fun i=>(i.zero,i.size,i.bytes))=some (some (.agg #[.slice none 0 0,.int .i64 0]),2,32):=by kernel_rfl
def TD:Value->Nat
 | .slice _ n _=>n
 |_=>0
theorem TZ(U:List Nat)(i:Nat):((zl U).any fun x=>x==(i:Int))=U.contains i:=by
 unfold zl;rw[List.any_map]
 induction U with
 |nil=>rfl
 |cons a l ih=>
  rw[List.any_cons,ih,List.contains_cons];congr 1;simp only[Function.comp];by_cases e:a=i
  .subst e;simp
  .have A:((a:Int)==(i:Int))=false:=by rw[beq_eq_false_iff_ne];omega
   have B:(i==a)=false:=by simpa using fun h=>e h.symm
   rw[A,B]
theorem K7{n:Nat}:∀{F:List (List Nat)},(∀S,S∈F->S.length<=n)->F.flatten.length<=F.length*n
 |[],_=>by simp
 |S::F,h=>by have A:=h S List.mem_cons_self;have B:=K7 (F:=F) fun T hT=>h T (List.mem_cons_of_mem _ hT);rw[List.flatten_cons,aZ1,List.length_cons,Nat.add_mul];omega
structure FmW(O:aO)(n:Nat)(gen:LL)(P M:Int)(mv gv:Value)(w0 wr:World)(uv ov:Value)(F:List (List Nat))(l:List (List Value)):Prop where
 inf:∀S,S∈F->DN O n gen S
 pos:F.length<=xG F.flatten n
 used:OI w0.heap.size wr uv (zl F.flatten)
 out:RO w0.heap.size 117 2 wr ov l
 len:l.length=F.length
 at_:∀j,j<F.length->∃u,l.getD j []=[u,.int .i64 ((cL F).getD j 0)]/\OI w0.heap.size wr u (zl (F.getD j []))/\∀g,u.ownBlock=some g->uv.ownBlock≠some g/\ov.ownBlock≠some g
 ne:∀g,uv.ownBlock=some g->ov.ownBlock≠some g/\g≠w0.heap.size
 nb:∀g,ov.ownBlock=some g->g≠w0.heap.size
 bel:Below w0.heap.size w0 wr
 cb:dD w0 wr P M mv n gv
section
variable {O:aO} {n:Nat} {gen:LL} {P M:Int} {mv gv:Value} {w0 wr w1:World} {uv ov:Value} {F:List (List Nat)} {l:List (List Value)}
theorem FmW.on(h:FmW O n gen P M mv gv w0 wr uv ov F l)(hb:Below wr.heap.size wr w1):FmW O n gen P M mv gv w0 w1 uv ov F l:=by refine⟨h.inf,h.pos,h.used.below hb zr,h.out.below hb zr,h.len,fun j A=>?_,h.ne,h.nb,h.bel.trans (hb.mono h.bel.size),h.cb.on hb⟩;obtain⟨u,e,B,C⟩:=h.at_ j A;exact⟨u,e,B.below hb zr,C⟩
theorem FmW.next{C B L:World}{o:Obj}{u G H:Value}{S:List Nat}{r:Nat}(h:FmW O n gen P M mv gv w0 wr uv ov F l)(c:DN O n gen S)(p:r=mJ F.flatten S)(ε:r≠0)
  (b:Below wr.heap.size wr C)(q:OI w0.heap.size C u (zl S))(ζ:∀g,u.ownBlock=some g->wr.heap.size<=g)
  (x:OI w0.heap.size B G (zl F.flatten++zl S))(g7:C.grownBy B uv.ownBlock)(η:G.ownBlock=uv.ownBlock\/G.ownBlock=some C.heap.size)
  (z:RO w0.heap.size 117 2 L H (l++[[u,.int .i64 (r:Int)]]))(w:(B.alloc o).grownBy L ov.ownBlock)(θ:H.ownBlock=ov.ownBlock\/H.ownBlock=some (B.alloc o).heap.size):
  FmW O n gen P M mv gv w0 L G H (F++[S]) (l++[[u,.int .i64 (r:Int)]]):=by
 have d:(F++[S]).flatten=F.flatten++S:=by simp
 have hB:w0.heap.size<wr.heap.size:=h.cb.blk.lt;have μ:=b.size;have ν:=g7.size;have ι:(B.alloc o).heap.size=B.heap.size+1:=World.size_alloc _ _;have Y:∀g,uv.ownBlock=some g->w0.heap.size<=g/\g<wr.heap.size:=fun g hg=>h.used.lt hg;have K:∀g,ov.ownBlock=some g->w0.heap.size<=g/\g<wr.heap.size:=fun g hg=>h.out.lt hg;have N:=h.on b;have Z:∀g,u.ownBlock=some g->wr.heap.size<=g/\g<C.heap.size:=fun g hg=>⟨ζ g hg,(q.lt hg).2⟩
 have R:∀g,G.ownBlock=some g->uv.ownBlock=some g\/g=C.heap.size:=fun g hg=>by
  rcases η with e|e
  .exact .inl (by rw[<-e];exact hg)
  .rw[e] at hg;exact .inr (aZ0 hg).symm
 have V:∀g,H.ownBlock=some g->ov.ownBlock=some g\/g=B.heap.size+1:=fun g hg=>by
  rcases θ with e|e
  .exact .inl (by rw[<-e];exact hg)
  .rw[e,ι] at hg;exact .inr (aZ0 hg).symm
 have J:B.grownBy L ov.ownBlock:=aX (aN (aF B o) _) w;have s:∀{y:Value} {xs:LI},OI w0.heap.size C y xs->(∀g,y.ownBlock=some g->uv.ownBlock≠some g/\ov.ownBlock≠some g)->OI w0.heap.size L y xs:=fun a k=>(a.grown g7 fun g hg=>(k g hg).1).grown J fun g hg=>(k g hg).2;have b7:Below w0.heap.size w0 B:=N.bel.grown g7 N.bel.size fun g hg=>(Y g hg).1;refine⟨fun T hT=>?_,?_,?_,z,by simp[h.len],fun j δ=>?_,fun g hg=>?_,fun g hg=>?_,b7.grown J b7.size fun g hg=>(K g hg).1,?_⟩
 .rcases List.mem_append.1 hT with hT|hT
  .exact h.inf T hT
  .rw[List.mem_singleton.1 hT];exact c
 .rw[d,aZ1,aZ2];have A:=KM (U:=F.flatten) (S:=S) (n:=n) (by rw[<-p];exact ε) (fun i hi=>c.ris.lt hi);have E:=h.pos;omega
 .rw[d,KQ];exact x.grown J fun g hg e=>by
   rcases R g hg with A|A
   .exact(h.ne g A).1 e
   .have:=K g e;omega
 .rw[aZ1,aZ2] at δ;have f:∀y:Value,(∀g,y.ownBlock=some g->uv.ownBlock≠some g/\ov.ownBlock≠some g/\g<C.heap.size)->∀g,y.ownBlock=some g->G.ownBlock≠some g/\H.ownBlock≠some g:=fun y a g hg=>by
   obtain⟨t,v,κ⟩:=a g hg;refine⟨fun e=>?_,fun e=>?_⟩
   .rcases R g e with A|A
    .exact t A
    .omega
   .rcases V g e with A|A
    .exact v A
    .omega
  by_cases Q:j<F.length
  .obtain⟨y,e,m,D⟩:=N.at_ j Q;have W:(l++[[u,Value.int .i64 (r:Int)]]).getD j []=l.getD j []:=by simp[List.getD,aY2 (show j<l.length by rw[h.len];exact Q)]
   have I:(F++[S]).getD j []=F.getD j []:=by simp[List.getD,aY2 Q]
   have X:(cL (F++[S])).getD j 0=(cL F).getD j 0:=by rw[oL (by simp;omega),oL Q,I,List.take_append_of_le_length (by omega)]
   exact⟨y,by rw[W,X,e],by rw[I];exact s m D,f y fun g hg=>⟨(D g hg).1,(D g hg).2,(m.lt hg).2⟩⟩
  .obtain rfl:j=F.length:=by omega
   have W:(l++[[u,Value.int .i64 (r:Int)]]).getD F.length []=[u,Value.int .i64 (r:Int)]:=by simp[List.getD,<-h.len]
   have I:(F++[S]).getD F.length []=S:=by simp[List.getD]
   have X:(cL (F++[S])).getD F.length 0=(r:Int):=by rw[oL (by simp),I,p,List.take_left' rfl]
   have D:∀g,u.ownBlock=some g->uv.ownBlock≠some g/\ov.ownBlock≠some g:=fun g hg=>⟨fun e=>by have:=Z g hg;have:=Y g e;omega,fun e=>by have:=Z g hg;have:=K g e;omega⟩
   exact⟨u,by rw[W,X],by rw[I];exact s q D,f u fun g hg=>⟨(D g hg).1,(D g hg).2,(Z g hg).2⟩⟩
 .refine⟨fun e=>?_,fun e=>?_⟩
  .rcases R g hg with A|A
   .rcases V g e with E|E
    .exact(h.ne g A).1 E
    .have:=Y g A;omega
   .rcases V g e with E|E
    .have:=K g E;omega
    .omega
  .rcases R g hg with A|A
   .exact(h.ne g A).2 e
   .omega
 .intro e;rcases V g hg with A|A
  .exact h.nb g A e
  .omega
 .exact⟨(N.cb.blk.grown g7 fun e=>(h.ne _ e.symm).2 rfl).grown J fun e=>h.nb _ e.symm rfl,b7.grown J b7.size fun g hg=>(K g hg).1⟩
end
theorem UU(w:World)(P M:Int)(n:Nat)(mv gv:Value)(Mod:LI)(gen:LL)(p:LI)(hm:SI w mv Mod)(hg:SS w gv gen)(hC:fH P M Mod n gen p)(Es:0<gen.length)(Bp:n<=12):
   Calls Tryz.prog 59 #[.agg #[.int .i64 P,.int .i64 M,mv,.int .i64 (n:Int),gv]] w (fun e w'=>∃v F l,e=.returned (.tuple #[v,.int .i64 0])/\0<F.length/\F.length<=n/\(∀S,S∈F->DN (aB P M Mod) n gen S)/\
     l.length=F.length/\RG 2 w' v l/\(∀j,j<F.length->∃u,l.getD j []=[u,.int .i64 ((cL F).getD j 0)]/\SI w' u (zl (F.getD j [])))/\Below w.heap.size w w'):=by
 have μ:=zh (dD.mk' w P M mv n gv);have Cl:=zh hm;have Cq:=zh hg;have Q:=zh hC;have Cj:=zh hC.kn;obtain⟨k,ζ⟩:∃k,k=gen.length:=⟨_,rfl⟩
 have Ci:=zh ζ;rw[<-ζ] at Es;have Fj:k<=12:=by rw[ζ];exact aZ6 Cj.out Bp
 clear hm hg hC ζ;go_enter Tryz.func59,Tryz.ntmps59;go_upto_region 1 with fail;generalize w.alloc (.cells #[.int .i64 P,.int .i64 M,mv,.int .i64 (n:Int),gv] 27)=w0 at*;obtain⟨y,ρ,σ,τ,φ,_,_,_,_,_⟩:=μ.blk.five;go_wp2_with fail;refine(F6 w0 P M n mv gv Mod gen (Cl.below μ.bel zr) Q.fld (fun w' hb=>by have z:=aA μ.bel hb;have:=eO w' P M n mv gv Mod gen (Cl.below z zr) (Cq.below z zr);rwa[Q.out.err] at this)).mono ?_
 rintro e w1 ⟨a,rfl,Dh,Dc⟩;have Aw:=zh (μ.on Dc);have Dv:Hid (∀Av,Below w.heap.size w Av->Below w1.heap.size w1 Av->GF Av a P M Mod):=aD fun Av _ h=>Dh.out.on h;have κ:Hid (Below w1.heap.size w1 w1):=aD (bE w1);have Cd:Hid (FmW (aB P M Mod) n gen P M mv gv w w1 (.slice none 0 0) (.slice none 0 0) [] []):=aD ⟨fun S h=>by simp at h,aZ5 _,OI.nil _ _,RO.nil _ _ _ _,rfl,fun j Ab=>absurd Ab (aY5 _),fun g h=>(by cases h),fun g h=>(by cases h),Aw.bel,Aw.out⟩;clear Dh Dc y ρ σ τ φ μ Aw;go_wp2_with fail;go_loopw [6,7] (fun ov uv wr=>∃(F:List (List Nat)) (l:List (List Value)) (Bx Ar:Option Addr) (By As:Nat),uv=.slice Bx (zl F.flatten).length By/\ov=.slice Ar F.length As/\Hid (FmW (aB P M Mod) n gen P M mv gv w wr uv ov F l)/\Hid (Below w1.heap.size w1 wr)/\Hid ((∀g,uv.ownBlock=some g->w1.heap.size<=g)/\∀g,ov.ownBlock=some g->w1.heap.size<=g)) (fun ov _ _=>n+1-TD ov)
 case atStart=>exact⟨[],[],none,none,0,0,rfl,rfl,Cd,κ,aD ⟨fun g h=>(by cases h),fun g h=>(by cases h)⟩⟩
 case round=>
   clear Cd κ;obtain⟨F,l,Bx,Ar,By,As,rfl,rfl,o,κ,s⟩:=hrel;have T:Hid ((∀i,i∈F.flatten->i<n)/\F.flatten.length<=144/\F.length<=n):=aD (by have Be:=o.inf;have χ:F.length<=n:=aZ6 o.pos (TR _ _);have Eo:=K7 (F:=F) (n:=n) fun S Bf=>(Be S Bf).ris.len;refine⟨fun i hi=>?_,aZ6 Eo (aZ6 (Nat.mul_le_mul (aZ6 χ Bp) Bp) (by decide)),χ⟩;obtain⟨S,Bf,ε⟩:=List.mem_flatten.1 hi;exact(Be S Bf).ris.lt ε);obtain⟨U,Bh⟩:∃U,U=F.flatten:=⟨_,rfl⟩
   have G:=zh Bh;rw[<-Bh] at o T s|-;obtain⟨Bz,Bt⟩:∃Bz,Bz=(zl U).length:=⟨_,rfl⟩
   obtain⟨Al,Bk⟩:∃Al,Al=F.length:=⟨_,rfl⟩
   rw[<-Bt,<-Bk] at o s|-;have Fg:=zh Bt;have Ce:=zh Bk;clear Bh Bt Bk;obtain⟨Ca,Ey⟩:∃Ca,Ca=wr:=⟨_,rfl⟩
   subst Ey;go_wp2_with fail;obtain⟨w2,Fi,m,V,χ,z⟩:=bB Ca 4 [.bool false,.bool true];rw[m,V];have Ay:=zh (o.on z);have Do:=zh χ;have Dp:=zh (aA κ z);clear m V χ z o κ;have Cb:Hid (Below w2.heap.size w2 w2):=aD (bE w2);go_loopw [8,25] (fun ov J wr=>∃(t:Nat) (L:List Nat) (A:Option Addr) (c:Nat),t<=2/\J=.int .i64 (t:Int)/\ov=.slice A (zl L).length c/\Hid (L=if t=0 then[] else if t=1 then jW U false n else BJ U n)/\Hid (OI w2.heap.size wr ov (zl L))/\Hid (Below w2.heap.size w2 wr)) (fun _ J _=>2-(intOf J).toNat)
   case atStart=>exact⟨0,[],none,0,by omega,rfl,rfl,aD rfl,aD (OI.nil _ _),Cb⟩
   case round=>
     clear Cb;obtain⟨t,L,A,c,Ev,rfl,rfl,Y,K,H⟩:=hrel;have B:=zh (Ay.on H);by_cases Ew:t<2
     . obtain⟨b,hb,Df⟩:∃b,[Value.bool false,Value.bool true][t]?=some (.bool b)/\b=decide (t=1):=by
         rcases(by omega:t=0\/t=1) with rfl|rfl
         . exact⟨false,rfl,rfl⟩
         . exact⟨true,rfl,rfl⟩
       have Ds:=zh Df;have Bj:=(Do.belowS H).cell t;rw[hb] at Bj;obtain⟨y,ρ,σ,τ,φ,_,_,_,_,_⟩:=B.cb.blk.five;have Az:Hid (OI w2.heap.size wr (.slice A (zl L).length c) (zl (L++jW U b 0))):=aD (by rw[CX,List.append_nil];exact K.out);clear hb Df;go_wp2_with fail;clear Bj y ρ σ τ φ;rw[show decide ((t:Int)<2)=true from decide_eq_true (by omega)];have Dx:Hid (L.length<=24):=aD (by rw[Y.out];split;simp;split;exact aZ6 (vB _ _ _) (by omega);exact aZ6 (zX _ _) (by omega));obtain⟨Dk,Bo⟩:∃Dk,Dk=(zl L).length:=⟨_,rfl⟩
       have Ba:=zh Bo;rw[<-Bo] at K Az|-;clear Bo;go_loopw [8,31] (fun ov J wr=>∃(i:Nat) (A:Option Addr) (c:Nat),i<=n/\J=.int .i64 (i:Int)/\ov=.slice A (zl (L++jW U b i)).length c/\Hid (OI w2.heap.size wr ov (zl (L++jW U b i)))/\Hid (Below w2.heap.size w2 wr)) (fun _ J _=>n-(intOf J).toNat)
       case atStart=>exact⟨0,A,c,aZ5 _,rfl,by rw[CX,List.append_nil,Ba.out],Az,H⟩
       case round=>
         clear K Az H B;obtain⟨i,A,c,hi,rfl,rfl,K,H⟩:=hrel;by_cases Bn:i<n
         . have B:=zh (Ay.on H);have π:=zh (B.used.si (by rw[<-G.out,aY];have:=T.2.1;omega) (fG (n:=n) (by omega) (by rw[<-G.out];exact T.1)));rw[<-G.out] at π;go_wp2_with fail;refine(cQ wr _ (zl U) (i:Int) π).mono ?_;rintro e Dm ⟨rfl,rfl⟩;rw[TZ];obtain⟨cb,δ⟩:∃cb,cb=U.contains i:=⟨_,rfl⟩
           rw[<-δ];have Cc:=zh δ;clear δ;obtain⟨lo,Am⟩:∃lo,lo=(zl (L++jW U b i)).length:=⟨_,rfl⟩
           have Dz:Hid (lo<=1000):=aD (by rw[Am,aY,aZ1];have:=vB U b i;have:=Dx.out;omega);have Ag:=zh Am;rw[<-Am] at K|-;clear Am;cases hq:cb==b
           . have f:Hid (jW U b (i+1)=jW U b i):=aD (VO (by rw[<-Cc.out];exact hq));have Fe:=zh hq;go_wp2_with fail;refine⟨⟨i+1,A,c,by omega,by push_cast;rfl,by rw[f.out,Ag.out],by rw[f.out];exact K,H⟩,by simp only[intOf];omega⟩
           . have f : Hid (jW U b (i + 1) = jW U b i ++ [i]) := aD (SD (by rw [<- Cc.out]; exact hq));have Ah := zh (K.alloc (.cells #[.int .i64 (i : Int)] 3));have Bb := zh (Blk.new wr 3 [.int .i64 (i : Int)]);have Ax := zh (H.trans ((aF wr (.cells #[.int .i64 (i : Int)] 3)).mono H.size));go_wp2_with (
               at_builtin;refine fF rfl _ _ rfl w2.heap.size (.slice A lo c) (zl (L++jW U b i)) rfl Ah.out wr.heap.size 1 (i:Int) rfl (Bb.cell 0) (by rw[<-Ag.out];have:=Dz.out;omega) Ax.size ?_;intro Fb Dn W ω;obtain⟨Ak,At,rfl⟩:=W.form';rw[aZ1,aZ2,<-Ag.out] at W|-;have Bc:=zh W;have Af:=zh (Ah.bgrown Ax Ax.size ω);clear W ω)
             refine⟨⟨i+1,Ak,At,by omega,by push_cast;rfl,?_,?_,Af⟩,by simp only[intOf];omega⟩
             . rw[f.out,<-List.append_assoc,nF,aZ1,aZ2,Ag.out]
             . rw[f.out,<-List.append_assoc,nF];exact Bc
         . obtain rfl:n=i:=by omega
           have Dy:Hid (L++jW U b n=if t+1=0 then[] else if t+1=1 then jW U false n else BJ U n):=aD (by
             rw[if_neg (by omega),Y.out,Ds.out];rcases(by omega:t=0\/t=1) with rfl|rfl
             . rfl
             . rfl)
           go_wp2_with fail;refine⟨⟨t+1,L++jW U b n,A,c,by omega,by push_cast;rfl,rfl,Dy,K,H⟩,by simp only[intOf];omega⟩
     . obtain rfl:t=2:=by omega
       rw[if_neg (by omega),if_neg (by omega)] at Y;clear Ev Ew;obtain⟨d,Ez⟩:∃d,d=wr:=⟨_,rfl⟩
       subst Ez;have B:=zh (Ay.on H);have Ae:=zh (aA Dp H);have Ck:=zh (K.si (by rw[aY,Y.out];have:=zX U n;omega) (fG (n:=n) (by omega) (by rw[Y.out];exact fun i hi=>xX hi)));obtain⟨y,ρ,σ,τ,φ,_,_,_,_,_⟩:=B.cb.blk.five;go_wp2_with fail;refine(wV d a P M n mv gv _ Mod gen L (Dv d B.bel Ae) (Cq.below B.bel zr) (fun k ζ=>(Q.rr.rows k ζ).1) Ck (by rw[Y.out];exact fun i hi=>xX hi) Q.O Q.q (by have:=Cj.out;omega) (by rw[Y.out];have:=zX U n;omega)).mono ?_;rintro e Ac ⟨C,Aa,u,rfl,An,Bi⟩;obtain⟨D,E,rfl⟩:=An.form';rw[Y.out] at Aa;have Bg:C.length=k:=by rw[Ci.out];exact Aa.full Q.O Q.rr (fun i hi=>GR hi)
       have Z:=zh Bg;have Dw:=zh Aa;have Ea:Hid (∀i,i∈C->i<n):=aD fun i hi=>xX (Aa.sub.subset hi);rw[aY,Bg] at An|-;have Co:=zh An;have Dt:=zh (B.on Bi);have ι:=zh Bi;clear Aa An Bi Bg K Ck y ρ σ τ φ;go_upto_region 18 with fail;obtain⟨Dm,gx,m,V,Da,Dd⟩:=bB Ac 117 [.slice D k E,.int .i64 0];rw[m,V];have Bd:Hid (Blk Dm gx 117 [.slice D k E,.int .i64 (mJ U (C.take 0):Nat)]):=aD Da;have I:=zh Dd;have Ep:Ac.heap.size<=gx:=by omega
       clear m V Da Dd;obtain⟨x0,x1,_,_⟩:=Bd.two;go_wp2_with fail;clear x0 x1;go_loopw [53] (fun J wr=>∃i:Nat,i<=k/\J=.int .i64 (i:Int)/\Hid (Blk wr gx 117 [.slice D k E,.int .i64 (mJ U (C.take i):Nat)])/\Hid (Below Ac.heap.size Ac wr)) (fun J _=>k-(intOf J).toNat)
       case atStart=>exact⟨0,aZ5 _,rfl,Bd,I⟩
       case round=>
         clear Bd I;obtain⟨i,hi,rfl,N,I⟩:=hrel;have R:=zh (Dt.on I);have Aj:=zh (Co.below I zr);by_cases Er:i<k
         . have π:=zh (R.used.si (by rw[<-G.out,aY];have:=T.2.1;omega) (fG (n:=n) (by omega) (by rw[<-G.out];exact T.1)));rw[<-G.out] at π;have ε:i<C.length:=by rw[Z.out];exact Er
           obtain⟨Fc,y,Cx,Db⟩:=Aj.si (by rw[aY,Z.out];omega) (fG (n:=n) (by omega) Ea);rw[aY,Z.out] at Cx;injection Cx with m V Cw;obtain⟨Fh,x,rfl,Bj,_,Em⟩:=Db.elt (k:=i) (by rw[aY];exact ε);subst m;obtain⟨θ,Bw⟩:∃θ,θ=C.getD i 0:=⟨_,rfl⟩
           have Fa:x=(θ:Int):=by rw[<-Em.out,gJ ε,Bw]
           subst Fa;have Ai:Hid (mJ U (C.take (i+1))=mJ U (C.take i)+(!(U.contains θ)).toNat):=aD (by unfold mJ;rw[List.take_add_one,aZ3 ε,List.filter_append,aZ1,Bw,aZ4,aZ3 ε];simp only[Option.toList_some,Option.getD_some,List.filter_cons,List.filter_nil];cases U.contains C[i]<;>simp);have Bq:mJ U (C.take i)<=100:=aZ6 (EH _ _) (by rw[aY3];omega);obtain⟨r,η⟩:∃r,r=mJ U (C.take i):=⟨_,rfl⟩
           rw[<-η] at N Ai Bq;clear Db V Cw Bw η;go_wp2_with fail;refine(cQ wr _ (zl U) (θ:Int) π).mono ?_;rintro e Au ⟨rfl,rfl⟩;rw[TZ];obtain⟨x0,x1,Cy,Cz⟩:=N.two;obtain⟨cb,δ⟩:∃cb,cb=U.contains θ:=⟨_,rfl⟩
           rw[<-δ] at Ai|-;clear δ;cases cb
           . have El:=zh (N.set_ 1 (.int .i64 ((r:Int)+1)));have Dr:=zh (I.setCell (p:=⟨gx,1,none⟩) Ep (.int .i64 ((r:Int)+1)));clear N I R Aj;go_wp2_with fail;refine⟨⟨i+1,by omega,by push_cast;rfl,?_,Dr⟩,by simp only[intOf];omega⟩;rw[Ai.out];exact El
           . go_wp2_with fail;refine⟨⟨i+1,by omega,by push_cast;rfl,?_,I⟩,by simp only[intOf];omega⟩;rw[Ai.out];exact N
         . obtain rfl:k=i:=by omega
           rw[show C.take k=C by rw[<-Z.out,List.take_length]] at N;have Bq:mJ U C<=k:=by rw[<-Z.out];exact EH _ _
           have Cm:Hid (U=[]->mJ U C=k):=aD fun e=>by rw[e,<-Z.out];unfold mJ;simp
           obtain⟨r,η⟩:∃r,r=mJ U C:=⟨_,rfl⟩
           have Ee:=zh η;rw[<-η] at N Bq Cm;clear η;obtain⟨x0,x1,Cy,Cz⟩:=N.two;by_cases Bs:r=0
           . have Du : Hid (0 < F.length) := aD (Nat.pos_of_ne_zero fun e => by
               have V:F=[]:=List.eq_nil_of_length_eq_zero e;have Cw:=Cm.out (by rw[G.out,V];rfl);omega)
             subst Bs;go_wp2_with fail;go_ret2;refine⟨_,F,l,rfl,Du.out,T.2.2,R.inf,R.len,R.out.out.rg,fun j Ab=>?_,R.bel⟩;obtain⟨u,e,Et,_⟩:=R.at_ j Ab;have Bn:=R.inf (F.getD j []) (by rw[aZ4,aZ3 Ab];exact aY6 Ab);exact⟨u,e,Et.si (by rw[aY,Bn.len,<-Ci.out];omega) (fG (n:=n) (by omega) fun i hi=>Bn.ris.lt hi)⟩
           . have Fk:((r:Int)==0)=false:=by rw[beq_eq_false_iff_ne];omega
             have Ef:=zh Bs;clear Bs;go_wp2_with fail;refine(IB wr d.heap.size k E D (zl C) Aj (by rw[aY,Z.out]) (by omega) (aZ6 ι.size I.size)).mono ?_;rintro e Au ⟨ys,rfl,Dg,Di,Br,Bl⟩;obtain⟨S,rfl,Aq⟩:=AW Dg;have ψ:S.length=k:=by rw[Aq.length_eq,Z.out]
             have Ch:Hid (DN (aB P M Mod) n gen S):=aD (WX Q.O Q.rr Dw (fun i hi=>GR hi) (fun i hi=>xX hi) (JW U n) Aq (by rw[ψ];exact Di));have Eg:Hid (r=mJ F.flatten S):=aD (by rw[N3 Aq,<-G.out];exact Ee.out);have Ap:∀g,(Value.slice D k E).ownBlock=some g->d.heap.size<=g/\g<Ac.heap.size:=fun g hg=>Co.lt hg;have Ed:=zh Ap;have Ad:Hid (Below d.heap.size d Au):=aD ((ι.trans (I.mono ι.size)).grown Bl (aZ6 ι.size I.size) fun g hg=>(Ap g hg).1);have Ct:=zh (N.grown Bl fun e=>by have:=Ap gx e.symm;omega);have ν:=zh (B.on Ad);have Eb:=zh Br;have Eh:=zh (Br.si (by rw[aY,ψ];omega) (fG (n:=n) (by omega) fun i hi=>Ch.ris.lt hi));have Cp:=zh ν.used;rw[<-G.out] at Cp;have Ff:=zh ψ;have Ei:Hid ((zl U).length+(zl S).length<=17592186044416):=aD (by rw[aY,aY,ψ,G.out];have:=T.2.1;rw[G.out] at this;omega);clear Dg Di Br Bl ψ Aq Ap N I R Aj x0 x1 Cy Cz;obtain⟨x0,x1,_,_⟩:=Ct.two;go_upto_region 28 with(
               at_builtin;refine dW rfl _ _ rfl w.heap.size (.slice Bx Bz By) (zl U) rfl Cp.out (.slice D k E) (zl S) rfl Eh.out Ei.out ν.bel.size ?_;intro Fm X Ao Bm Bu;obtain⟨Ak,At,rfl⟩:=Ao.form';rw[aZ1] at Ao Bu|-;have Ec:=zh Ao;have ξ:=zh Bm;have Cr:=zh Bu;have Ek:=zh (Ct.grown Bm fun e=>by have Be:=B.used.lt e.symm;have:=ι.size;omega);clear Ao Bm Bu)
             clear x0 x1;obtain⟨x0,x1,_,_⟩:=Ek.two;have Bb:=zh (oH X 117 [.slice D k E,.int .i64 (r:Int)]);have De:=aF X (.cells #[.slice D k E,.int .i64 (r:Int)] 117);have Dq:Hid (Below w.heap.size w X):=aD (ν.bel.grown ξ ν.bel.size fun g hg=>(B.used.lt hg).1);have Ah:Hid (RO w.heap.size 117 2 (X.alloc (.cells #[.slice D k E,.int .i64 (r:Int)] 117)) (.slice Ar Al As) l):=aD ((ν.out.out.grown ξ fun g hg e=>(B.ne g e).1 hg).alloc _);have Ba:Hid (l.length+1<=100000000):=aD (by rw[B.out.len];have:=T.2.2;omega);have Ej:Hid (w.heap.size<=(X.alloc (.cells #[.slice D k E,.int .i64 (r:Int)] 117)).heap.size):=aD (aZ6 Dq.size De.size);clear De;go_wp2_with (
               at_builtin;refine fE rfl 117 109 2 32 _ Tryz.underlying109 Tryz.infoStep rfl (by decide) (by decide) _ _ rfl w.heap.size (.slice Ar Al As) l rfl Ah.out X.heap.size 1 [.slice D k E,.int .i64 (r:Int)] rfl rfl Bb.out (by intro u Dj;simp at Dj;rcases Dj with rfl|rfl<;>rfl) Ba.out Ej.out ?_;intro Fb Dn W ω Bv;obtain⟨Cu,Dl,rfl⟩:=W.form';rw[aZ1,aZ2] at W Bv|-;have Bc:=zh W;have Cf:=zh ω;have Cs:=zh Bv;clear W ω Bv)
             have f:=zh (B.next Ch Eg Ef Ad (Eb.mono B.bel.size) (fun g hg=>(Ed.out g hg).1) (by rw[<-G.out];exact Ec.out) ξ Cr Bc Cf Cs);have Ex:w1.heap.size<=Au.heap.size:=aZ6 Ae.size Ad.size;have Fl:=ξ.size;have Eu:(X.alloc (.cells #[.slice D k E,.int .i64 (r:Int)] 117)).heap.size=X.heap.size+1:=World.size_alloc _ _;have Af:Hid (Below w1.heap.size w1 Dn/\(∀g,(Value.slice Ak ((zl U).length+(zl S).length) At).ownBlock=some g->w1.heap.size<=g)/\∀g,(Value.slice Cu (l.length+1) Dl).ownBlock=some g->w1.heap.size<=g):=aD (by
               have En:Below w1.heap.size w1 Au:=Ae.trans (Ad.mono Ae.size);have b7:=En.grown ξ.out Ex s.1;have Cv:=b7.trans ((aF X (.cells #[.slice D k E,.int .i64 (r:Int)] 117)).mono b7.size);refine⟨Cv.grown Cf.out Cv.size s.2,fun g hg=>?_,fun g hg=>?_⟩
               . rcases Cr.out with e|e
                 . exact s.1 g (by rw[<-e];exact hg)
                 . rw[e] at hg;have:=aZ0 hg;omega
               . rcases Cs.out with e|e
                 . exact s.2 g (by rw[<-e];exact hg)
                 . rw[e,Eu] at hg;have:=aZ0 hg;omega)
             refine⟨⟨F++[S],l++[[.slice D k E,.int .i64 (r:Int)]],Ak,Cu,At,Dl,?_,?_,f,aD Af.1,aD Af.2⟩,?_⟩
             . rw[show(F++[S]).flatten=F.flatten++S by simp,KQ,aZ1,G.out]
             . rw[aZ1,B.out.len];rfl
             . rw[B.out.len,<-Ce.out];have:=T.2.2;have:=Ce.out;simp only[TD];omega
end Go.Proofs.YtpfhoemohibniaaGreatDoor
