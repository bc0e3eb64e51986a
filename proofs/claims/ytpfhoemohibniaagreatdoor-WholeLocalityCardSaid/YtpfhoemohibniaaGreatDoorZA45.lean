/- Texts of a claim, merged. -/
import Derived.Test.YtpfhoemohibniaaGreatDoorZA44
set_option maxRecDepth 100000
set_option linter.unusedVariables false
set_option maxHeartbeats 32000000
namespace Go.Proofs.YtpfhoemohibniaaGreatDoor
open Go.RowKit
def E0(O:aO)(q:Int)(gen:LL)(n k:Nat)(A:LL):Prop:=A.length=k/\∀j,j<k->(A.getD j []).length=n/\dC O q gen n (fun t=>(A.getD j []).getD t 0)/\(A.getD j []).getD j 0=1
theorem E0.nil(O:aO)(q:Int)(gen:LL)(n:Nat):E0 O q gen n 0 []:=⟨rfl,fun j h=>absurd h (aY5 _)⟩
theorem E0.snoc{O:aO}{q:Int}{gen:LL}{n k:Nat}{A:LL}{x:LI}(h:E0 O q gen n k A)(B:x.length=n)(C:dC O q gen n (fun t=>x.getD t 0))(D:x.getD k 0=1):E0 O q gen n (k+1) (A++[x]):=by
 refine⟨by rw[aZ1,aZ2,h.1],fun j E=>?_⟩;by_cases e:j=k
 .subst e;have:(A++[x]).getD j []=x:=by rw[aZ4,List.getElem?_append_right (by rw[h.1];exact Nat.le_refl _),h.1,Nat.sub_self];rfl
  rw[this];exact⟨B,C,D⟩
 .have:(A++[x]).getD j []=A.getD j []:=by rw[aZ4,aY2 (by rw[h.1];omega),<-aZ4]
  rw[this];exact h.2 j (by omega)
theorem FI{T:Nat->Bool}{i:Nat}(h:T i=true):∀{n},i<n->1<=cC T n
 |0,hi=>absurd hi (aY5 _)
 |n+1,hi=>by
  unfold cC;by_cases e:i=n
  .subst e;rw[if_pos h];omega
  .have:=FI (T:=T) h (n:=n) (by omega);omega
section
variable (w:World) (P M:Int) (n q:Nat) (mv gv:Value) (Mod:LI) (gen:LL) (p:LI) (hm:SI w mv Mod) (hg:SS w gv gen) (hC:fH P M Mod n gen p) (hq:aC P M=(q:Int)) (hqk:q^(n-gen.length)<=256)
include hm hg hC hq hqk
theorem U0(Ak:n<=7):Calls Tryz.prog 26 #[.agg #[.int .i64 P,.int .i64 M,mv,.int .i64 (n:Int),gv]] w (fun e w'=>∃(v:Value) (X:Int),e=.returned (.tuple #[v,.int .i64 X])/\(X=11\/(X=0/\∃B,SS w' v B/\E0 (aB P M Mod) (aC P M) gen n n B))/\Below w.heap.size w w'):=by
 have m:=zh (fun(w':World) (hb:Below w.heap.size w w')=>eO w' P M n mv gv Mod gen (hm.below hb zr) (hg.below hb zr));rw[hC.err] at m;have θ:=zh (fun(w':World) (hb:Below w.heap.size w w')=>F9 w' P M n q mv gv Mod gen p (hm.below hb zr) (hg.below hb zr) hC hq hqk);have ι:=zh (vS hC hq hqk);have H:=zh (fun(j:Nat) (a:j<(kJ P M Mod n gen).length)=>FR hC hq hqk a);generalize kJ P M Mod n gen=W at*;clear hm hg hC hq hqk;have F:=zh (dD.mk' w P M mv n gv);have Al:=fun w=>xV w;go_enter Tryz.func26,Tryz.ntmps26;go_upto_region 1 with fail;generalize w.alloc (.cells #[.int .i64 P,.int .i64 M,mv,.int .i64 (n:Int),gv] 27)=w0 at*;obtain⟨x0,x1,x2,x3,x4,_,_,_,_,_⟩:=F.blk.five;go_wp2_with fail;refine(m _ F.bel).mono ?_;rintro e w1 ⟨rfl,C⟩;have G:=zh (F.on C);clear x0 x1 x2 x3 x4 C F;obtain⟨x0,x1,x2,x3,x4,_,_,_,_,_⟩:=G.blk.five;go_wp2_with fail;refine(θ _ G.bel).mono ?_;rintro e w2 ⟨Af,rfl,δ,C⟩;have π:=zh δ;have U:=zh (G.on C);clear x0 x1 x2 x3 x4 δ C G;have r:Hid (OS w2.heap.size (fun _=>False) w2 (.slice none 0 0) []):=aD (OS.nil _ _ _);have i:=zh (bE w2);have d:=zh (E0.nil (aB P M Mod) (aC P M) gen n);obtain⟨x0,x1,x2,x3,x4,_,_,_,_,_⟩:=U.blk.five;go_wp2_with fail;clear x0 x1 x2 x3 x4;go_loopw [7,25] (fun ov b wr=>∃(k:Nat) (A:Option Addr) (c:Nat) (B:LL),k<=n/\b=.int .i64 (k:Int)/\ov=.slice A k c/\Hid (E0 (aB P M Mod) (aC P M) gen n k B)/\Hid (OS w2.heap.size (fun _=>False) wr (.slice A k c) B)/\Hid (Below w2.heap.size w2 wr)) (fun _ b _=>n-(intOf b).toNat)
 case atStart=>exact⟨0,none,0,[],aZ5 _,rfl,rfl,d,r,i⟩
 case round=>
  clear r i d;obtain⟨k,A,c,B,Aj,rfl,rfl,D,o,E⟩:=hrel;by_cases ψ:k<n
  .go_wp2_with fail;refine(CJ wr Af W k n (π.below E zr) (fun j a=>(H _ a).1) ψ (by omega) (by have:=ι.out;omega)).mono ?_;rintro e Ag ⟨u,rfl,Aa,J⟩;have R:=zh (E.trans (J.mono E.size));have s:=zh (o.below J);rcases Aa with⟨rfl,ω⟩|⟨Ac,φ,τ,K,rfl,Z,C,χ⟩
   .have T:=zh (aA U.bel R);clear ω J;go_wp2_with fail;go_ret2;exact⟨_,11,rfl,.inl rfl,T.out⟩
   .have Am:=xW φ n τ;have ε:=zh (D.snoc (H _ K).1 (H _ K).2.2 C);have V:=zh (H _ K).1;have ξ:=zh (YB Z);have η:=zh Z;generalize W.getD Ac []=row at*;have f:Hid (B.length=k):=aD D.1;clear Z χ C K J;go_wp2_with fail;refine(iV Ag _ row η).mono ?_;rintro e Q ⟨Ae,rfl,L,Y⟩;have l:=zh (R.trans (Y.mono R.size));have y:Hid (0<row.length->∀g,Ae.ownBlock=some g->(Value.slice A k c).ownBlock≠some g/\¬False):=aD fun _ g hg=>⟨fun e=>by
     have Ah:=(L.lt hg).1;have Ai:=(s.lt e).2;omega,fun h=>h⟩
    have μ:=zh (s.below Y);have x:=zh (L.si (by rw[V.out];omega) ξ);obtain⟨I,O,rfl⟩:=L.form';rw[V.out] at y x|-;have t:=zh (μ.alloc (.cells #[.slice I n O] 22));have κ:=zh (Blk.new Q 22 [.slice I n O]);have ρ:=zh (x.below (aF Q (.cells #[.slice I n O] 22)) zr);have S:=zh (l.trans ((aF Q (.cells #[.slice I n O] 22)).mono l.size));clear L Y;go_wp2_with (
     at_builtin;refine jM rfl _ _ rfl w2.heap.size (fun _=>False) (.slice A k c) B rfl t.out Q.heap.size 1 _ row rfl (κ.cell 0) ρ.out (by rw[V.out];exact y.out) (by have:=f.out;omega) S.size ?_;intro An Ao N z Ab;obtain⟨σ,Ad,rfl⟩:=N.form;rw[aZ1,aZ2,f.out] at N|-;have ν:=zh N;have ζ:=zh (t.bgrown S S.size z);clear N z Ab)
    exact⟨⟨k+1,σ,Ad,_,by omega,by push_cast;rfl,rfl,ε,ν,ζ⟩,by simp only[intOf];omega⟩
  .obtain rfl:n=k:=by omega
   have T:=zh (aA U.bel E);go_wp2_with fail;go_ret2;exact⟨_,0,rfl,.inr ⟨rfl,B,o.ss (by rw[D.out.1];omega),D.out⟩,T.out⟩
theorem EB(ε:n<=7):Calls Tryz.prog 8 #[.agg #[.int .i64 P,.int .i64 M,mv,.int .i64 (n:Int),gv]] w (fun e w'=>∃(r:Nat) (D:Int),e=.returned (.tuple #[.int .i64 (r:Int),.int .i64 D])/\(D=11\/(D=0/\r<=n-1/\∀i,i<n->∃h,dC (aB P M Mod) (aC P M) gen n h/\h i=1/\cC (fun j=>decide (j≠i)&&decide (h j≠0)) n<=r))/\Below w.heap.size w w'):=by
 have s:=zh (fun(w':World) (hb:Below w.heap.size w w')=>U0 w' P M n q mv gv Mod gen p (hm.below hb zr) (hg.below hb zr) hC hq hqk ε);clear hm hg hC hq hqk;have C:=zh (dD.mk' w P M mv n gv);go_enter Tryz.func8,Tryz.ntmps8;go_upto_region 1 with fail;generalize w.alloc (.cells #[.int .i64 P,.int .i64 M,mv,.int .i64 (n:Int),gv] 27)=w0 at*;obtain⟨x0,x1,x2,x3,x4,_,_,_,_,_⟩:=C.blk.five;go_wp2_with fail;refine(s _ C.bel).mono ?_;rintro e w1 ⟨v,D,rfl,ζ,d⟩;have Q:=zh (aA C.bel d);clear x0 x1 x2 x3 x4 d C;rcases ζ with rfl|⟨rfl,N,o,E⟩
 .go_wp2_with fail;go_ret2;exact⟨0,11,rfl,.inl rfl,Q.out⟩
 .have Z:=zh o;have H:=zh E;obtain⟨A,c,rfl,_⟩:=o;have y:Hid (N.length=n):=aD E.1;rw[E.1] at Z|-;have O:=zh (bE w1);clear E;go_wp2_with fail;go_loopw [6,19] (fun ov K wr=>∃(k r:Nat),k<=n/\r<=6/\K=.int .i64 (k:Int)/\ov=.int .i64 (r:Int)/\Hid (r<=n-1)/\Hid (∀i,i<k->cC (fun j=>decide (j≠i)&&decide ((N.getD i []).getD j 0≠0)) n<=r)/\Hid (Below w1.heap.size w1 wr)) (fun _ K _=>n-(intOf K).toNat)
  case atStart=>exact⟨0,0,aZ5 _,aZ5 _,rfl,rfl,aD (aZ5 _),aD (fun i h=>absurd h (aY5 _)),O⟩
  case round=>
   clear O;obtain⟨k,r,ν,π,rfl,rfl,I,V,B⟩:=hrel;by_cases J:k<n
   .obtain⟨ι,z,η,row,rfl,δ,Y,W⟩:=(Z.below B zr).eltA (k:=k) (by rw[y.out];exact J);have F:row.length=n:=by rw[<-W.out];exact(H.2 k J).1
    rw[F] at δ;have x:Hid (SI wr (.slice z n η) row):=aD (by have:=Y.si;rwa[F] at this);have X:=zh F;clear F Y;go_wp2_with fail;refine(uS wr _ row (k:Int) x (by rw[X.out];omega)).mono ?_;rintro e σ ⟨ρ,rfl,g,f⟩;obtain⟨θ,κ,rfl⟩:=g.form';rw[X.out,aY];have u:Hid ((cO row (k:Int) n).length=cC (fun j=>decide (j≠k)&&decide (row.getD j 0≠0)) n):=aD (sD _ _ _);have S:Hid ((cO row (k:Int) n).length<=n-1):=aD (by
     rw[sD];have a:=oZ (T:=fun j=>decide (j≠k)&&decide (row.getD j 0≠0)) (L:=fun j=>decide (j=k)) (fun j h=>by simp only[aY9,decide_eq_true_eq] at h;exact decide_eq_false h.1) n;have b:1<=cC (fun j=>decide (j=k)) n:=FI (i:=k) (by simp) J;omega)
    generalize (cO row (k:Int) n).length=m at*;have R:=zh (B.trans (f.mono B.size));clear g f;go_wp2_with fail;have U:∀G,r<=G->m<=G->Hid (∀i,i<k+1->cC (fun j=>decide (j≠i)&&decide ((N.getD i []).getD j 0≠0)) n<=G):=fun G a b=>aD fun i hi=>by
     by_cases e:i=k
     .subst e;rw[W.out,<-u.out];exact b
     .exact aZ6 (V.out i (by omega)) a
    have μ:=S.out;have ξ:=I.out;by_cases l:r<m
    .rw[if_pos l];exact⟨⟨k+1,m,by omega,by omega,by push_cast;rfl,rfl,S,U m (by omega) zr,R⟩,by simp only[intOf];omega⟩
    .rw[if_neg l];exact⟨⟨k+1,r,by omega,by omega,by push_cast;rfl,rfl,I,U r zr (by omega),R⟩,by simp only[intOf];omega⟩
   .obtain rfl:n=k:=by omega
    have t:=zh (aA Q B);go_wp2_with fail;go_ret2;exact⟨r,0,rfl,.inr ⟨rfl,I.out,fun i hi=>⟨_,(H.2 i hi).2.1,(H.2 i hi).2.2,V.out i hi⟩⟩,t.out⟩
end
theorem NM(w:World)(n k r:Nat)(hn:n<=64)(E:1<=k)(F:k<=n)(G:1<=r)(H:r<=n):Calls Tryz.prog 9 #[.int .i64 (n:Int),.int .i64 (k:Int),.int .i64 (r:Int)] w (fun e w'=>e=.returned (.tuple #[.int .i64 ((n:Int)-(k:Int)-((((k+r-1)/r:Nat)):Int)+2),.int .i64 0])/\Below w.heap.size w w'):=by
 go_enter Tryz.func9,Tryz.ntmps9;go_wp2_with fail;go_ret2;have C:((k:Int)+(r:Int)-1)/(r:Int)=(((k+r-1)/r:Nat):Int):=by rw[show(k:Int)+(r:Int)-1=((k+r-1:Nat):Int) by omega];rfl
 have D:(k+r-1)/r<=k+r-1:=Nat.div_le_self _ _;rw[C];generalize (k+r-1)/r=z at*;have A:wrap64 ((n:Int)-(k:Int)-(z:Int))=(n:Int)-(k:Int)-(z:Int):=by unfold wrap64;omega
 have B:wrap64 ((n:Int)-(k:Int)-(z:Int)+2)=(n:Int)-(k:Int)-(z:Int)+2:=by unfold wrap64;omega
 exact⟨show Ending.returned (.tuple #[.int .i64 (wrap64 (wrap64 ((n:Int)-(k:Int)-(z:Int))+2)),.int .i64 0])=_ by rw[A,B],bE w⟩
theorem NF(w:World):Calls Tryz.prog 109 #[.slice none 0 0,.int .i64 0] w (pX w []):=by go_enter Tryz.func109,Tryz.ntmps109;go_wp2_with fail;go_ret;exact⟨_,rfl,OI.nil _ _,bE w⟩
theorem Q4(w:World)(n:Nat)(A:n<=1000):Calls Tryz.prog 109 #[.slice none 0 0,.int .i64 (n:Int)] w (pX w []):=by
 by_cases h:n=0
 .subst h;exact NF w
 .exact Q5 w n (by omega) A
theorem IY(w:World)(v:Value)(l:LL)(a:SS w v l)(q:0<l.length)(W:l.flatten.length<=1000):Calls Tryz.prog 55 #[v] w (pX w l.flatten):=by
 have F:=zh a;obtain⟨ε,μ,rfl,_⟩:=a;have K:Hid (∀k,k<l.length->kM l (k+1)=kM l k++l.getD k []):=aD fun k h=>I7 h;have H:Hid (kM l l.length=l.flatten):=aD (I6 l);have J:Hid (∀k,(kM l k).length<=l.flatten.length):=aD fun k=>QX;have T:Hid (kM l 0=[]):=aD rfl;obtain⟨N,Q⟩:∃N,N=l.flatten.length:=⟨_,rfl⟩
 rw[<-Q] at W J;have f:=zh Q;clear Q;obtain⟨r,R⟩:∃r,r=l.length:=⟨_,rfl⟩
 rw[<-R] at F K H q|-;have M:=zh R;clear R;have ζ:r<=17592186044416:=by rw[M.out];exact F.len'
 go_enter Tryz.func55,Tryz.ntmps55;go_wp2_with fail;go_loop [3,11] (fun z i=>∃(k s:Nat),k<=r/\i=.int .i64 (k:Int)/\z=.int .i64 (s:Int)/\Hid ((kM l k).length=s)) (fun _ i=>r-(intOf i).toNat)
 case atStart=>exact⟨0,0,aZ5 _,rfl,rfl,by rw[T.out];rfl⟩
 case round=>
  obtain⟨k,s,p,rfl,rfl,V⟩:=hrel;by_cases C:k<r
  .obtain⟨j,c,o,row,rfl,Y,U,O⟩:=F.eltA (k:=k) (by rw[<-M.out];exact C);have P:Hid ((kM l (k+1)).length=s+row.length):=aD (by rw[K.out k C,aZ1,V.out,O.out]);have t:s+row.length<=1000:=by have:=J.out (k+1);rw[P.out] at this;omega
   obtain⟨m,hm⟩:∃m,m=row.length:=⟨_,rfl⟩
   rw[<-hm] at P t Y;clear hm;have θ:IntKind.i64.wrap ((s:Int)+(m:Int))=((s+m:Nat):Int):=by rw[<-Int.natCast_add];exact IntWalk.i64_in _ (by omega)
   have ι:wrap64 ((s:Int)+(m:Int))=((s+m:Nat):Int):=by unfold wrap64;omega
   have η:¬(((s+m:Nat):Int))<0:=by omega
   go_wp2_with fail;go_round
   case rel=>exact⟨k+1,s+m,by omega,by go_num,by first|rfl|(push_cast;rfl),P⟩
   case measure=>simp[intOf];omega
  .obtain rfl:r=k:=by omega
   obtain rfl:N=s:=by rw[f.out,<-V.out,H.out]
   go_wp2_with fail;refine(Q4 _ N W).mono ?_;rintro e w2 ⟨δ,rfl,Z,X⟩;have L:Hid (OI w.heap.size w2 δ (kM l 0)):=aD (by rw[T.out];exact Z);have S:=zh X;clear Z X;go_wp2_with fail;go_loopw [6,27] (fun u i wr=>∃(k:Nat) (B:Option Addr) (s D:Nat),k<=r/\i=.int .i64 (k:Int)/\u=.slice B s D/\Hid (OI w.heap.size wr (.slice B s D) (kM l k))/\Hid (Below w.heap.size w wr)) (fun _ i _=>r-(intOf i).toNat)
   case atStart=>obtain⟨B,D,e⟩:=L.form';exact⟨0,B,_,D,aZ5 _,rfl,e,by rw[<-e];exact L,S⟩
   case round=>
    clear L S;obtain⟨k,B,s,D,p,rfl,rfl,E,A⟩:=hrel;by_cases C:k<r
    .obtain⟨j,c,o,row,rfl,Y,U,O⟩:=(F.below A zr).eltA (k:=k) (by rw[<-M.out];exact C);have I:=zh (K k C);rw[O.out] at I;have x:=J.out (k+1);rw[I.out,aZ1] at x;go_wp2_with (at_builtin;refine dW rfl _ _ rfl w.heap.size _ (kM l k) rfl E _ row rfl U.si (by omega) A.size ?_;(intro κ ν G hg y);(rw[<-I.out] at G);(have d:=zh (E.bgrown A A.size hg));(obtain⟨b,n,rfl⟩:=G.form');(have g:=zh G);clear G hg y)
     exact⟨⟨k+1,b,_,n,by omega,by push_cast;rfl,rfl,g,d⟩,by simp only[intOf];omega⟩
    .obtain rfl:r=k:=by omega
     rw[H.out] at E;go_wp2_with fail;go_ret;exact⟨_,rfl,E.out,A.out⟩
theorem sT(S:List Nat)(i:Nat):((zl S).any fun x=>x==(i:Int))=S.contains i:=by
 induction S with
 |nil=>rfl
 |cons a S ih=>
  show(((a:Int)==(i:Int))||(zl S).any _)=_;rw[ih,List.contains_cons];congr 1;by_cases e:a=i
  .subst e;simp
  .rw[show((a:Int)==(i:Int))=false by rw[beq_eq_false_iff_ne];omega,show(i==a)=false by rw[beq_eq_false_iff_ne];exact fun h=>e h.symm]
def fL(L:List (List Nat))(n:Nat):List Nat:=(List.range n).filter fun i=>!L.any fun l=>l.contains i
theorem N8(L:List (List Nat))(n:Nat):fL L (n+1)=if(L.any fun l=>l.contains n) then fL L n else fL L n++[n]:=by
 unfold fL;rw[List.range_succ,List.filter_append];cases h:L.any fun l=>l.contains n
 .rw[List.filter_cons,h];rfl
 .rw[List.filter_cons,h];exact List.append_nil _
theorem LQ{L:List (List Nat)}{n i:Nat}(h:i∈fL L n):i<n:=by unfold fL at h;rw[List.mem_filter,List.mem_range] at h;exact h.1
theorem vD(L:List (List Nat))(n:Nat):(fL L n).length<=n:=by have:=List.length_filter_le (fun i=>!L.any fun l=>l.contains i) (List.range n);rwa[List.length_range] at this
theorem SG(w:World)(v:Value)(xs:LI)(g:Nat)(y:Int)(B:SI w v xs)(D:w.cell? ⟨g,0,none⟩=some (.int .i64 y)):Calls Tryz.prog 47 #[v,.pointer (some ⟨g,0,none⟩)] w (fun e w'=>e=.returned (.bool (xs.any fun x=>x==y))/\w=w'):=by have C:=zh B;obtain⟨A,c,rfl,_⟩:=B;go_enter Tryz.func47,Tryz.ntmps47;go_wp2_with fail;refine(cQ w _ xs y C).mono ?_;rintro e w1 ⟨rfl,rfl⟩;go_wp2_with fail;go_ret;exact⟨rfl,rfl⟩
theorem SC(w:World)(v:Value)(xs:LI)(g i:Nat)(C:SI w v xs)(hi:i<xs.length)(F:w.cell? ⟨g,0,none⟩=some v):Calls Tryz.prog 97 #[.int .i64 (i:Int),.pointer (some ⟨g,0,none⟩)] w (fun e w'=>e=.returned (.bool (xs.getD i 0 !=0))/\w=w'):=by have B:=zh C;obtain⟨A,c,rfl,_⟩:=C;obtain⟨E,x,rfl,H,_,D⟩:=B.elt hi;have G:=B.len';go_enter Tryz.func97,Tryz.ntmps97;go_wp2_with fail;go_ret;exact⟨by rw[D.out];rfl,rfl⟩
theorem RW(w:World)(v:Value)(xs:LI)(g:Nat)(y:Int)(B:SI w v xs)(D:w.cell? ⟨g,0,none⟩=some v):Calls Tryz.prog 166 #[.int .i64 y,.pointer (some ⟨g,0,none⟩)] w (fun e w'=>e=.returned (.bool (xs.any fun x=>x==y))/\w=w'):=by have C:=zh B;obtain⟨A,c,rfl,_⟩:=B;go_enter Tryz.func166,Tryz.ntmps166;go_wp2_with fail;refine(cQ w _ xs y C).mono ?_;rintro e w1 ⟨rfl,rfl⟩;go_wp2_with fail;go_ret;exact⟨rfl,rfl⟩
theorem US(w:World)(v:Value)(xs:LI)(g:Nat)(P:Int->Bool)(H:SI w v xs)(K:∀k,k<xs.length->Calls Tryz.prog 97 #[.int .i64 (xs.getD k 0),.pointer (some ⟨g,0,none⟩)] w (fun e w'=>e=.returned (.bool (P (xs.getD k 0)))/\w=w')):Calls Tryz.prog 159 #[v,.func (.func 97) #[] #[.pointer (some ⟨g,0,none⟩)]] w (fun e w'=>∃z:Int,e=.returned (.int .i64 z)/\(decide (0<=z)=xs.any P)/\w=w'):=by
 have J:=zh H;have M:=zh K;have O:=H.len';obtain⟨A,c,rfl,_⟩:=H;clear K;obtain⟨n,hn⟩:∃n,n=xs.length:=⟨_,rfl⟩
 have C:=zh hn;rw[<-hn] at J O|-;clear hn;go_enter Tryz.func159,Tryz.ntmps159;go_wp2_with fail;go_loopw [8] (fun i wr=>∃k:Nat,k<=n/\i=.int .i64 (k:Int)/\Hid (∀j,j<k->P (xs.getD j 0)=false)/\w=wr) (fun i _=>n-(intOf i).toNat)
 case atStart=>exact⟨0,aZ5 _,rfl,aD (fun j h=>absurd h (aY5 _)),rfl⟩
 case round=>
   obtain⟨k,R,rfl,I,rfl⟩:=hrel;by_cases G:k<n
   . obtain⟨B,D⟩:∃B,A=some B/\w.cell? (B.add k)=some (.int .i64 (xs.getD k 0)):=by
       obtain⟨B,x,e,D,_,N⟩:=J.elt (k:=k) (by rw[<-C.out];exact G);exact⟨B,e,by rw[N.out];exact D⟩
     obtain⟨rfl,D⟩:=D;go_wp2_with fail;refine(M k (by rw[<-C.out];exact G)).mono ?_;rintro e w1 ⟨rfl,rfl⟩;cases hp:P (xs.getD k 0)
     . have L : Hid (∀ j, j < k + 1 -> P (xs.getD j 0) = false) := aD fun j F => by
         by_cases e:j=k
         . subst e;exact hp
         . exact I.out j (by omega)
       go_wp2_with fail;exact⟨⟨k+1,by omega,by push_cast;rfl,L,trivial⟩,by simp only[intOf];omega⟩
     . have E:Hid (xs.any P=true):=aD (by
         rw[List.any_eq_true];exact⟨xs.getD k 0,by rw[aZ4,aZ3 (by rw[<-C.out];exact G)];exact aY6 _,hp⟩)
       go_wp2_with fail;go_ret;exact⟨_,rfl,by rw[E.out];exact decide_eq_true (by omega),rfl⟩
   . obtain rfl:n=k:=by omega
     have E:Hid (xs.any P=false):=aD (by rw[List.any_eq_false];intro x Q e;obtain⟨j,F,rfl⟩:=List.mem_iff_getElem.1 Q;have:=I.out j (by rw[C.out];exact F);rw[aZ4,aZ3 F] at this;exact Bool.noConfusion (e.symm.trans this));go_wp2_with fail;go_ret;exact⟨_,rfl,by rw[E.out];rfl,rfl⟩
theorem UG(w:World)(v:Value)(xs:LI)(g:Nat)(P:Int->Bool)(C:SI w v xs)(B:∀k,k<xs.length->Calls Tryz.prog 97 #[.int .i64 (xs.getD k 0),.pointer (some ⟨g,0,none⟩)] w (fun e w'=>e=.returned (.bool (P (xs.getD k 0)))/\w=w')):Calls Tryz.prog 96 #[v,.func (.func 97) #[] #[.pointer (some ⟨g,0,none⟩)]] w (fun e w'=>e=.returned (.bool (xs.any P))/\w=w'):=by have E:=zh (US w v xs g P C B);obtain⟨A,c,rfl,_⟩:=C;clear B;go_enter Tryz.func96,Tryz.ntmps96;go_wp2_with fail;refine E.mono ?_;rintro e w1 ⟨z,rfl,D,rfl⟩;have F:=zh D;clear D;go_wp2_with fail;go_ret;exact⟨by rw[<-F.out];rfl,rfl⟩
theorem UR(w:World)(v:Value)(xs:LI)(g:Nat)(P:Int->Bool)(H:SI w v xs)(K:∀k,k<xs.length->Calls Tryz.prog 166 #[.int .i64 (xs.getD k 0),.pointer (some ⟨g,0,none⟩)] w (fun e w'=>e=.returned (.bool (P (xs.getD k 0)))/\w=w')):Calls Tryz.prog 159 #[v,.func (.func 166) #[] #[.pointer (some ⟨g,0,none⟩)]] w (fun e w'=>∃z:Int,e=.returned (.int .i64 z)/\(decide (0<=z)=xs.any P)/\w=w'):=by
 have J:=zh H;have M:=zh K;have O:=H.len';obtain⟨A,c,rfl,_⟩:=H;clear K;obtain⟨n,hn⟩:∃n,n=xs.length:=⟨_,rfl⟩
 have C:=zh hn;rw[<-hn] at J O|-;clear hn;go_enter Tryz.func159,Tryz.ntmps159;go_wp2_with fail;go_loopw [8] (fun i wr=>∃k:Nat,k<=n/\i=.int .i64 (k:Int)/\Hid (∀j,j<k->P (xs.getD j 0)=false)/\w=wr) (fun i _=>n-(intOf i).toNat)
 case atStart=>exact⟨0,aZ5 _,rfl,aD (fun j h=>absurd h (aY5 _)),rfl⟩
 case round=>
   obtain⟨k,R,rfl,I,rfl⟩:=hrel;by_cases G:k<n
   . obtain⟨B,D⟩:∃B,A=some B/\w.cell? (B.add k)=some (.int .i64 (xs.getD k 0)):=by
       obtain⟨B,x,e,D,_,N⟩:=J.elt (k:=k) (by rw[<-C.out];exact G);exact⟨B,e,by rw[N.out];exact D⟩
     obtain⟨rfl,D⟩:=D;go_wp2_with fail;refine(M k (by rw[<-C.out];exact G)).mono ?_;rintro e w1 ⟨rfl,rfl⟩;cases hp:P (xs.getD k 0)
     . have L : Hid (∀ j, j < k + 1 -> P (xs.getD j 0) = false) := aD fun j F => by
         by_cases e:j=k
         . subst e;exact hp
         . exact I.out j (by omega)
       go_wp2_with fail;exact⟨⟨k+1,by omega,by push_cast;rfl,L,trivial⟩,by simp only[intOf];omega⟩
     . have E:Hid (xs.any P=true):=aD (by
         rw[List.any_eq_true];exact⟨xs.getD k 0,by rw[aZ4,aZ3 (by rw[<-C.out];exact G)];exact aY6 _,hp⟩)
       go_wp2_with fail;go_ret;exact⟨_,rfl,by rw[E.out];exact decide_eq_true (by omega),rfl⟩
   . obtain rfl:n=k:=by omega
     have E:Hid (xs.any P=false):=aD (by rw[List.any_eq_false];intro x Q e;obtain⟨j,F,rfl⟩:=List.mem_iff_getElem.1 Q;have:=I.out j (by rw[C.out];exact F);rw[aZ4,aZ3 F] at this;exact Bool.noConfusion (e.symm.trans this));go_wp2_with fail;go_ret;exact⟨_,rfl,by rw[E.out];rfl,rfl⟩
theorem UF(w:World)(v:Value)(xs:LI)(g:Nat)(P:Int->Bool)(C:SI w v xs)(B:∀k,k<xs.length->Calls Tryz.prog 166 #[.int .i64 (xs.getD k 0),.pointer (some ⟨g,0,none⟩)] w (fun e w'=>e=.returned (.bool (P (xs.getD k 0)))/\w=w')):Calls Tryz.prog 96 #[v,.func (.func 166) #[] #[.pointer (some ⟨g,0,none⟩)]] w (fun e w'=>e=.returned (.bool (xs.any P))/\w=w'):=by have E:=zh (UR w v xs g P C B);obtain⟨A,c,rfl,_⟩:=C;clear B;go_enter Tryz.func96,Tryz.ntmps96;go_wp2_with fail;refine E.mono ?_;rintro e w1 ⟨z,rfl,D,rfl⟩;have F:=zh D;clear D;go_wp2_with fail;go_ret;exact⟨by rw[<-F.out];rfl,rfl⟩
theorem UT(w:World)(v:Value)(xs:LL)(g:Nat)(P:(LI)->Bool)(F:SS w v xs)(I:∀k,k<xs.length->∀u,SI w u (xs.getD k [])->Calls Tryz.prog 47 #[u,.pointer (some ⟨g,0,none⟩)] w (fun e w'=>e=.returned (.bool (P (xs.getD k [])))/\w=w')):Calls Tryz.prog 90 #[v,.func (.func 47) #[] #[.pointer (some ⟨g,0,none⟩)]] w (fun e w'=>∃z:Int,e=.returned (.int .i64 z)/\(decide (0<=z)=xs.any P)/\w=w'):=by
 have H:=zh F;have L:=zh I;have R:=F.len';obtain⟨A,c,rfl,_⟩:=F;clear I;obtain⟨n,hn⟩:∃n,n=xs.length:=⟨_,rfl⟩
 have B:=zh hn;rw[<-hn] at H R|-;clear hn;go_enter Tryz.func90,Tryz.ntmps90;go_wp2_with fail;go_loopw [8] (fun i wr=>∃k:Nat,k<=n/\i=.int .i64 (k:Int)/\Hid (∀j,j<k->P (xs.getD j [])=false)/\w=wr) (fun i _=>n-(intOf i).toNat)
 case atStart=>exact⟨0,aZ5 _,rfl,aD (fun j h=>absurd h (aY5 _)),rfl⟩
 case round=>
   obtain⟨k,V,rfl,G,rfl⟩:=hrel;by_cases E:k<n
   . obtain⟨T,J,Q,row,rfl,U,O,M⟩:=H.eltA (k:=k) (by rw[<-B.out];exact E);have N:Hid (SI w (.slice J row.length Q) (xs.getD k [])):=aD (by rw[M.out];exact O.si);go_wp2_with fail;refine(L k (by rw[<-B.out];exact E) _ N).mono ?_;rintro e w1 ⟨rfl,rfl⟩;cases hp:P (xs.getD k [])
     . have K : Hid (∀ j, j < k + 1 -> P (xs.getD j []) = false) := aD fun j D => by
         by_cases e:j=k
         . subst e;exact hp
         . exact G.out j (by omega)
       go_wp2_with fail;exact⟨⟨k+1,by omega,by push_cast;rfl,K,trivial⟩,by simp only[intOf];omega⟩
     . have C:Hid (xs.any P=true):=aD (by
         rw[List.any_eq_true];exact⟨xs.getD k [],by rw[aZ4,aZ3 (by rw[<-B.out];exact E)];exact aY6 _,hp⟩)
       go_wp2_with fail;go_ret;exact⟨_,rfl,by rw[C.out];exact decide_eq_true (by omega),rfl⟩
   . obtain rfl:n=k:=by omega
     have C:Hid (xs.any P=false):=aD (by rw[List.any_eq_false];intro x S e;obtain⟨j,D,rfl⟩:=List.mem_iff_getElem.1 S;have:=G.out j (by rw[B.out];exact D);rw[aZ4,aZ3 D] at this;exact Bool.noConfusion (e.symm.trans this));go_wp2_with fail;go_ret;exact⟨_,rfl,by rw[C.out];rfl,rfl⟩
theorem UH(w:World)(v:Value)(xs:LL)(g:Nat)(P:(LI)->Bool)(C:SS w v xs)(B:∀k,k<xs.length->∀u,SI w u (xs.getD k [])->Calls Tryz.prog 47 #[u,.pointer (some ⟨g,0,none⟩)] w (fun e w'=>e=.returned (.bool (P (xs.getD k [])))/\w=w')):Calls Tryz.prog 46 #[v,.func (.func 47) #[] #[.pointer (some ⟨g,0,none⟩)]] w (fun e w'=>e=.returned (.bool (xs.any P))/\w=w'):=by have E:=zh (UT w v xs g P C B);obtain⟨A,c,rfl,_⟩:=C;clear B;go_enter Tryz.func46,Tryz.ntmps46;go_wp2_with fail;refine E.mono ?_;rintro e w1 ⟨z,rfl,D,rfl⟩;have F:=zh D;clear D;go_wp2_with fail;go_ret;exact⟨by rw[<-F.out];rfl,rfl⟩
theorem ssL{w:World}{g:Nat}{A:List Value}{xss:LL}(h:Blk w g 22 A)(E:xss.length<=17592186044416)(F:∀k,k<xss.length->∃u,A[k]?=some u/\SI w u (xss.getD k [])):SS w (.slice (some ⟨g,0,none⟩) xss.length xss.length) xss:=by
 refine⟨some ⟨g,0,none⟩,xss.length,rfl,E,Nat.le_refl _,fun k D=>?_⟩;obtain⟨u,G,A⟩:=F k D;refine⟨_,u,rfl,?_,A⟩;have B:(⟨g,0,none⟩:Addr).add k=⟨g,k,none⟩:=by unfold Addr.add;by_cases C:k=0<;>simp[C]
 rw[B,h.cell k];exact G
theorem YD{w:World}{g:Nat}{u:Value}{xs:LI}(h:Blk w g 22 [u])(B:SI w u xs):SS w (.slice (some ⟨g,0,none⟩) 1 1) [xs]:=
 ssL (xss:=[xs]) h (by simp) (fun k A=>by
  match k,A with
  |0,_=>exact⟨_,rfl,B⟩
  |k+1,A=>exact absurd A (by simp))
theorem YE{w:World}{g:Nat}{u v:Value}{xs ys:LI}(h:Blk w g 22 [u,v])(B:SI w u xs)(C:SI w v ys):SS w (.slice (some ⟨g,0,none⟩) 2 2) [xs,ys]:=
 ssL (xss:=[xs,ys]) h (by simp) (fun k A=>by
  match k,A with
  |0,_=>exact⟨_,rfl,B⟩
  |1,_=>exact⟨_,rfl,C⟩
  |k+2,A=>exact absurd A (by simp))
theorem DC(w:World)(u v:Value)(S T:List Nat)(F:SI w u (zl S))(G:SI w v (zl T))(Q:S.length+T.length<=1000):Calls Tryz.prog 52 #[u,v] w (pX w (zl (S++T))):=by have K:=zh (fun(w':World) (x:Value) (hb:SS w' x [zl S,zl T])=>IY w' x [zl S,zl T] hb (Nat.zero_lt_succ _) (by simp[aY];omega));have L:Hid ([zl S,zl T].flatten=zl (S++T)):=aD (by rw[KQ];simp);have O:=zh F;have P:=zh G;obtain⟨A,c,rfl,_⟩:=F;obtain⟨B,d,rfl,_⟩:=G;generalize (zl S).length=H at*;generalize (zl T).length=I at*;have hb:=aF w (.cells #[.slice A H c,.slice B I d] 22);have N:=zh (YE (Blk.new w 22 [.slice A H c,.slice B I d]) (O.below hb zr) (P.below hb zr));have D:=zh hb;clear hb;go_enter Tryz.func52,Tryz.ntmps52;go_wp2_with fail;refine(K _ _ N).mono ?_;rintro e w1 ⟨x,rfl,C,E⟩;rw[L.out] at C;have M:=zh (C.mono D.size);have J:=zh (aA D E);clear C E;go_wp2_with fail;go_ret;exact⟨x,rfl,M.out,J.out⟩
theorem G6(w:World)(v:Value)(L:List (List Nat))(n:Nat)(V:SS w v (L.map zl))(hn:n<=1000):Calls Tryz.prog 19 #[.int .i64 (n:Int),v] w (pX w (zl (fL L n))):=by
 have Y:=zh (fun(w':World) (g i:Nat) (hb:Below w.heap.size w w') (h:w'.cell? ⟨g,0,none⟩=some (.int .i64 (i:Int)))=>UH w' v (L.map zl) g (fun xs=>xs.any fun x=>x==(i:Int)) (V.below hb zr) (fun k j u m=>SG w' u _ g i m h));have W:Hid (∀i:Nat,((L.map zl).any fun xs=>xs.any fun x=>x==(i:Int))=L.any fun l=>l.contains i):=aD fun i=>by rw[List.any_map];congr 1;funext l;exact sT l i
 obtain⟨A,c,rfl,_⟩:=V;generalize (L.map zl).length=r at*;have P:Hid (OI w.heap.size w (.slice none 0 0) (zl (fL L 0))):=aD (OI.nil _ _);have O:=zh (bE w);go_enter Tryz.func19,Tryz.ntmps19;go_wp2_with fail;go_loopw [5,8] (fun ov N wr=>∃(k:Nat) (A:Option Addr) (c:Nat),k<=n/\N=.int .i64 (k:Int)/\ov=.slice A (zl (fL L k)).length c/\Hid (OI w.heap.size wr (.slice A (zl (fL L k)).length c) (zl (fL L k)))/\Hid (Below w.heap.size w wr)) (fun _ N _=>n-(intOf N).toNat)
 case atStart=>exact⟨0,none,0,aZ5 _,rfl,rfl,P,O⟩
 case round=>
  clear P O;obtain⟨k,A,c,j,rfl,rfl,J,H⟩:=hrel;obtain⟨lo,F⟩:∃lo,lo=(zl (fL L k)).length:=⟨_,rfl⟩
  have Z:Hid (lo<=k):=aD (by rw[F,aY];exact vD _ _);have B:=zh F;rw[<-F] at J|-;clear F;by_cases q:k<n
  .go_upto_region 5 with fail;obtain⟨w2,g,S,T,K,M⟩:=bB wr 3 [.int .i64 (k:Int)];rw[S,T];have E:=zh (H.trans (M.mono H.size));have Q:=zh (J.below M zr);have f:w2.cell? ⟨g,0,none⟩=some (.int .i64 (k:Int)):=K.cell 0;have p:=zh K;clear S T K M;go_wp2_with fail;refine(Y.out w2 g k E f).mono ?_;rintro e t ⟨rfl,rfl⟩;rw[W.out];have C:=zh (N8 L k);cases hp:(L.any fun l=>l.contains k)
   .rw[hp] at C;have D:Hid (fL L (k+1)=fL L k++[k]):=aD (by rw[C.out];rfl);have R:=zh (Q.alloc (.cells #[.int .i64 (k:Int)] 3));have a:=zh (Blk.new w2 3 [.int .i64 (k:Int)]);have I:=zh (E.trans ((aF w2 (.cells #[.int .i64 (k:Int)] 3)).mono E.size));clear hp C;go_wp2_with (
     at_builtin;refine fF rfl _ _ rfl w.heap.size (.slice A lo c) (zl (fL L k)) rfl R.out w2.heap.size 1 (k:Int) rfl (a.cell 0) (by rw[<-B.out];have:=Z.out;omega) I.size ?_;intro s y G U;obtain⟨d,o,rfl⟩:=G.form';rw[aZ1,aZ2,<-B.out] at G|-;have b:=zh G;have X:=zh (R.bgrown I I.size U);clear G U)
    refine⟨⟨k+1,d,o,by omega,by push_cast;rfl,?_,?_,X⟩,by simp only[intOf];omega⟩
    .rw[D.out,nF,aZ1,aZ2,B.out]
    .rw[D.out,nF,aZ1,aZ2,<-B.out];exact b
   .rw[hp] at C;have D:Hid (fL L (k+1)=fL L k):=aD (by rw[C.out];rfl);clear hp C;go_wp2_with fail;exact⟨⟨k+1,A,c,by omega,by push_cast;rfl,by rw[D.out,B.out],by rw[D.out,<-B.out];exact Q,E⟩,by simp only[intOf];omega⟩
  .obtain rfl:n=k:=by omega
   go_wp2_with fail;go_ret;exact⟨_,rfl,J.out,H.out⟩
theorem S2(w:World)(u v:Value)(xs:LI)(S:List Nat)(E:SI w u xs)(F:SI w v (zl S))(D:∀i,i∈S->i<xs.length):Calls Tryz.prog 50 #[u,v] w (fun e w'=>e=.returned (.bool (S.any fun i=>xs.getD i 0 !=0))/\Below w.heap.size w w'):=by
 have hb:=aF w (.cells #[u] 22);have H:Hid (Calls Tryz.prog 96 #[v,.func (.func 97) #[] #[.pointer (some ⟨w.heap.size,0,none⟩)]] (w.alloc (.cells #[u] 22)) (fun e w'=>e=.returned (.bool (S.any fun i=>xs.getD i 0 !=0))/\w.alloc (.cells #[u] 22)=w')):=aD (by
  have h:=UG (w.alloc (.cells #[u] 22)) v (zl S) w.heap.size (fun x=>xs.getD x.toNat 0 !=0) (F.below hb zr) (fun k C=>by rw[aY] at C;rw[gJ C];refine SC _ u xs _ _ (E.below hb zr) (D _ (by rw[aZ4,aZ3 C];exact aY6 _)) ((Blk.new w 22 [u]).cell 0));have I:(zl S).any (fun x=>xs.getD x.toNat 0 !=0)=S.any fun i=>xs.getD i 0 !=0:=by unfold zl;rw[List.any_map];rfl
  rwa[I] at h)
 have G:=zh hb;obtain⟨A,c,rfl,_⟩:=E;obtain⟨B,d,rfl,_⟩:=F;clear hb D;generalize (S.any fun i=>xs.getD i 0 !=0)=b at*;go_enter Tryz.func50,Tryz.ntmps50;go_wp2_with fail;refine H.mono ?_;rintro e w1 ⟨rfl,rfl⟩;go_wp2_with fail;go_ret;exact⟨rfl,G.out⟩
theorem OU(w:World)(u v:Value)(S T:List Nat)(C:SI w u (zl S))(D:SI w v (zl T)):Calls Tryz.prog 110 #[u,v] w (fun e w'=>e=.returned (.bool (S.any fun i=>T.contains i))/\Below w.heap.size w w'):=by
 have hb:=aF w (.cells #[v] 22);have F:Hid (Calls Tryz.prog 96 #[u,.func (.func 166) #[] #[.pointer (some ⟨w.heap.size,0,none⟩)]] (w.alloc (.cells #[v] 22)) (fun e w'=>e=.returned (.bool (S.any fun i=>T.contains i))/\w.alloc (.cells #[v] 22)=w')):=aD (by
  have h:=UF (w.alloc (.cells #[v] 22)) u (zl S) w.heap.size (fun x=>(zl T).any fun y=>y==x) (C.below hb zr) (fun k H=>RW _ v (zl T) _ _ (D.below hb zr) ((Blk.new w 22 [v]).cell 0));have G:(zl S).any (fun x=>(zl T).any fun y=>y==x)=S.any fun i=>T.contains i:=by
   conv=>lhs;unfold zl
   rw[List.any_map];congr 1;funext i;exact sT T i
  rwa[G] at h)
 have E:=zh hb;obtain⟨A,c,rfl,_⟩:=C;obtain⟨B,d,rfl,_⟩:=D;clear hb;generalize (S.any fun i=>T.contains i)=b at*;go_enter Tryz.func110,Tryz.ntmps110;go_wp2_with fail;refine F.mono ?_;rintro e w1 ⟨rfl,rfl⟩;go_wp2_with fail;go_ret;exact⟨rfl,E.out⟩
theorem xY(w:World)(v:Value)(S:List Nat)(n:Nat)(N:SI w v (zl S))(G:sR n S)(hn:n<=1000):Calls Tryz.prog 18 #[v,.int .i64 (n:Int)] w (fun e w'=>e=.returned (.bool true)/\w=w'):=by
 have D:=zh N;obtain⟨A,c,rfl,_⟩:=N;have C:=zh (aY S);have K:Hid (∀k,k<S.length->(zl S).getD k 0=(S.getD k 0:Nat)/\S.getD k 0<n/\(0<k->S.getD (k-1) 0<S.getD k 0)):=aD fun k B=>by have h:=G k (by rw[aY];exact B);rw[gJ B] at h;refine⟨gJ B,by have:=h.2.1;omega,fun T=>?_⟩;have U:=h.2.2 T;rw[gJ (by omega)] at U;omega
 have f:S.length<=1000:=by have:=G.len;omega
 rw[C.out] at D|-;generalize S.length=m at*;clear G;go_enter Tryz.func18,Tryz.ntmps18;go_wp2_with fail;go_loopw [9] (fun J wr=>∃(k:Nat),k<=m/\J=.int .i64 (k:Int)/\w=wr) (fun J _=>m-(intOf J).toNat)
 case atStart=>exact⟨0,aZ5 _,rfl,rfl⟩
 case round=>
  obtain⟨k,B,rfl,rfl⟩:=hrel;by_cases M:k<m
  .obtain⟨F,d,I⟩:=K.out k M;obtain⟨E,x,rfl,V,_,Q⟩:=D.elt (k:=k) (by rw[C.out];exact M);have O:=Q.out;rw[F] at O;subst O;generalize S.getD k 0=x at*;by_cases W:k=0
   .subst W;clear F I;have Y:w.cell? E=some (.int .i64 (x:Int)):=by
     have:E.add 0=E:=by unfold Addr.add;simp
     rwa[this] at V
    go_wp2_with fail;exact⟨⟨1,by omega,rfl,trivial⟩,by simp only[intOf];omega⟩
   .obtain⟨L,_,_⟩:=K.out (k-1) (by omega);obtain⟨X,y,H,Z,_,R⟩:=D.elt (k:=k-1) (by rw[C.out];omega);injection H with H;subst H;have P:=R.out;rw[L] at P;subst P;have I:=I (by omega);have a:(k:Int)-1=((k-1:Nat):Int):=by omega
    generalize S.getD (k-1) 0=y at*;have b:wrap64 ((k-1:Nat):Int)=((k-1:Nat):Int):=by unfold wrap64;omega
    clear F L;go_wp2_with fail;exact⟨⟨k+1,by omega,by push_cast;rfl,trivial⟩,by simp only[intOf];omega⟩
  .obtain rfl:m=k:=by omega
   go_wp2_with fail;go_ret;exact⟨rfl,rfl⟩
end Go.Proofs.YtpfhoemohibniaaGreatDoor
