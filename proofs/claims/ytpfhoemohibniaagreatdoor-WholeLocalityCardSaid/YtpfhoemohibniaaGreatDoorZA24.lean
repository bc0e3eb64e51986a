/- Texts of a claim, merged. -/
import Derived.Test.YtpfhoemohibniaaGreatDoorZA20
import Derived.Test.YtpfhoemohibniaaGreatDoorZA22
set_option maxRecDepth 100000
set_option maxHeartbeats 32000000
namespace Go.Proofs.YtpfhoemohibniaaGreatDoor
open Go.RowKit Go.ChangeMaps
def gfN:ByteArray:=⟨#[103,102]⟩
def D8:ByteArray:=⟨#[104,97,109,109,105,110,103]⟩
def nJ(k:Nat):List ByteArray:=[iX,lX,rW,vQ].getD k []
def pZ(k j:Nat):ByteArray:=(nJ k).getD j ByteArray.empty
theorem MC:((List.range 4).all fun k=>(List.range 4).all fun i=>(List.range (nJ k).length).all fun j=>(List.range (nJ i).length).all fun A=>!((pZ k j).data.toList==(pZ i A).data.toList)||(k==i&&j==A))=true:=by decide+kernel
theorem P5:((List.range 4).all fun k=>(List.range (nJ k).length).all fun j=>!((pZ k j).data.toList==gfN.data.toList))=true:=by decide+kernel
theorem MB(k:Nat)(H:k<4)(i:Nat)(hi:i<4)(j:Nat)(F:j<(nJ k).length)(A:Nat)(G:A<(nJ i).length)(h:(pZ k j).data.toList=(pZ i A).data.toList):k=i/\j=A:=by have C:=List.all_eq_true.1 MC k (List.mem_range.2 H);have D:=List.all_eq_true.1 C i (List.mem_range.2 hi);have E:=List.all_eq_true.1 D j (List.mem_range.2 F);have B:=List.all_eq_true.1 E A (List.mem_range.2 G);rw[h,beq_self_eq_true] at B;simpa using B
theorem P4(k:Nat)(D:k<4)(j:Nat)(C:j<(nJ k).length):(pZ k j).data.toList≠gfN.data.toList:=fun h=>by have B:=List.all_eq_true.1 P5 k (List.mem_range.2 D);have A:=List.all_eq_true.1 B j (List.mem_range.2 C);rw[h,beq_self_eq_true] at A;cases A
theorem tU{k i j A:Nat}(D:k<4)(hi:i<4)(B:j<(nJ k).length)(C:A<(nJ i).length)(h:pZ k j=pZ i A):k=i/\j=A:=MB k D i hi j B A C (by rw[h])
theorem KY{k j:Nat}(B:k<4)(A:j<(nJ k).length):pZ k j≠gfN:=fun h=>P4 k B j A (by rw[h])
theorem tB:pZ 0 5=D8/\5<(nJ 0).length:=⟨rfl,by decide⟩
def Vis(k:Nat)(seen:Array Nat)(s:ByteArray):Prop:=(∃i j,i<k/\j<(nJ i).length/\s=pZ i j)\/∃j,j<(nJ k).length/\seen.contains j=true/\s=pZ k j
theorem Vis.new{k j:Nat}{seen:Array Nat}(B:k<4)(D:j<(nJ k).length)(E:seen.contains j=false):¬Vis k seen (pZ k j):=by
 rintro (⟨i,F,hi,A,e⟩|⟨F,A,C,e⟩)
 .have:=(tU B (by omega) D A e).1;omega
 .obtain rfl:=(tU B B D A e).2;rw[E] at C;cases C
theorem Vis.push{k j:Nat}{seen:Array Nat}{s:ByteArray}(E:j<(nJ k).length):Vis k (seen.push j) s↔Vis k seen s\/s=pZ k j:=by
 constructor
 .rintro (h|⟨B,C,A,e⟩)
  .exact .inl (.inl h)
  .rw[Array.contains_push] at A;by_cases D:B=j
   .subst D;exact .inr e
   .exact .inl (.inr ⟨B,C,by simpa[D,Ne.symm D] using A,e⟩)
 .rintro ((h|⟨B,C,A,e⟩)|e)
  .exact .inl h
  .exact .inr ⟨B,C,by rw[Array.contains_push,A];simp,e⟩
  .exact .inr ⟨j,E,by rw[Array.contains_push];simp,e⟩
theorem Vis.all{k:Nat}{seen:Array Nat}{s:ByteArray}(h:∀j,j<(nJ k).length->seen.contains j=true):Vis k seen s↔Vis (k+1) #[] s:=by
 constructor
 .rintro (⟨i,j,hi,A,e⟩|⟨j,A,_,e⟩)
  .exact .inl ⟨i,j,by omega,A,e⟩
  .exact .inl ⟨k,j,by omega,A,e⟩
 .rintro (⟨i,j,hi,A,e⟩|⟨j,_,B,_⟩)
  .by_cases C:i=k
   .subst C;exact .inr ⟨j,A,h j A,e⟩
   .exact .inl ⟨i,j,by omega,A,e⟩
  .simp at B
def vM(w:World)(D B:Nat)(gv:Value)(E:List Value)(V:ByteArray->Prop):Prop:=∃C:List (ByteArray×Value),eX w D C/\C.Pairwise (fun p q=>p.1≠q.1)/\(∀p∈C,p.1=gfN\/V p.1)/\(gfN,gv)∈C/\
 (V D8->∃A c,(D8,.slice A 1 c)∈C/\RO B 197 3 w (.slice A 1 c) [E])
theorem vM.iff{w:World}{A B:Nat}{gv:Value}{C:List Value}{V U:ByteArray->Prop}(h:vM w A B gv C V)(e:∀s,V s↔U s):vM w A B gv C U:=by obtain⟨K,D,E,F,G,H⟩:=h;exact⟨K,D,E,fun p I=>(F p I).imp id (e _).1,G,fun J=>H ((e _).2 J)⟩
theorem vM.grown{w w':World}{D B:Nat}{gv:Value}{E:List Value}{V:ByteArray->Prop}{row:Option Nat}(h:vM w D B gv E V)(hg:w.grownBy w' row)(F:∀r,row=some r->r≠D/\∀cs t H,w.heap[r]?≠some (.cells cs t H)):vM w' D B gv E V:=by
 obtain⟨Q,I,J,K,L,M⟩:=h;refine⟨Q,I.grown hg (fun e=>(F D e.symm).1 rfl),J,K,L,fun O=>?_⟩;obtain⟨A,c,hm,G⟩:=M O;refine⟨A,c,hm,G.grown hg fun g C e=>?_⟩;rcases G.1.2 with⟨hn,_⟩|⟨T,R,S,P,_,N,_⟩
 .rw[hn] at C;simp[Value.ownBlock] at C
 .rw[P] at C;simp[Value.ownBlock] at C;subst C;exact(F _ e).2 _ _ _ N
theorem eX.not_cells{w:World}{b:Nat}{l:List (ByteArray×Value)}(h:eX w b l):∀cs t A,w.heap[b]?≠some (.cells cs t A):=fun cs t A e=>by unfold eX at h;rw[h] at e;cases e
theorem vM.ins{w w':World}{G B k j:Nat}{gv:Value}{I:List Value}{seen:Array Nat}{A:Option Addr}{c:Nat}{y:List Value}(J:k<4)(D:j<(nJ k).length)(Y:seen.contains j=false){E:List (ByteArray×Value)}
  (C:E.Pairwise (fun p q=>p.1≠q.1))(K:∀p∈E,p.1=gfN\/Vis k seen p.1)(P:(gfN,gv)∈E)(Q:Vis k seen D8->∃A c,(D8,.slice A 1 c)∈E/\RO B 197 3 w (.slice A 1 c) [I])
  (W:eX w' G (E++[(pZ k j,.slice A 1 c)]))(T:∃l,eX w G l)(hg:w.grownBy w' (some G))(H:RO B 197 3 w (.slice A 1 c) [y])(b:k=0->j=5->y=I):vM w' G B gv I (Vis k (seen.push j)):=by
 have L:∀{A:Option Addr} {c:Nat} {y:List Value},RO B 197 3 w (.slice A 1 c) [y]->RO B 197 3 w' (.slice A 1 c) [y]:=fun H=>H.grown hg fun g F e=>by
  obtain⟨l,V⟩:=T;rcases H.1.2 with⟨hn,_⟩|⟨i,d,f,a,_,U,_⟩
  .rw[hn] at F;simp[Value.ownBlock] at F
  .rw[a] at F;simp[Value.ownBlock] at F;subst F;obtain rfl:=aZ0 e;exact V.not_cells _ _ _ U
 have X:∀p∈E,p.1≠pZ k j:=fun p C e=>by
  rcases K p C with h|h
  .exact KY J D (by rw[<-e,h])
  .rw[e] at h;exact Vis.new J D Y h
 refine⟨_,W,?_,fun p C=>?_,by simp[P],fun Z=>?_⟩
 .rw[List.pairwise_append];refine⟨C,List.pairwise_singleton _ _,fun p C q hq=>?_⟩;rw[List.mem_singleton] at hq;subst hq;exact X p C
 .rw[List.mem_append,List.mem_singleton] at C;rcases C with C|rfl
  .exact(K p C).imp id fun h=>(Vis.push D).2 (.inl h)
  .exact .inr ((Vis.push D).2 (.inr rfl))
 .rcases(Vis.push D).1 Z with h|h
  .obtain⟨M,c',R,S⟩:=Q h;exact⟨M,c',by simp[R],L S⟩
  .obtain⟨N,O⟩:=tU (by omega) J tB.2 D (tB.1.trans h);subst N O;obtain rfl:=b rfl rfl;exact⟨A,c,by rw[h];simp,L H⟩
def LC(A r:Nat)(w:World):Nat:=match w.heap[A]?,w.heap[r]? with
 |some (.map es _),some (.mapIter _ _ seen _)=>(leftOf es seen).size
 |_,_=>0
theorem U3{A:Array MapEntry}{seen:Array Nat}{e:MapEntry}(E:e∈(leftOf A seen).toList):(leftOf A (seen.push e.born)).size<(leftOf A seen).size:=by
 unfold leftOf at E|-;change (Array.filter (fun x=>!(seen.push e.born).contains x.born) A).toList.length<(Array.filter (fun x=>!seen.contains x.born) A).toList.length;rw[Array.toList_filter] at E;rw[Array.toList_filter,Array.toList_filter];generalize A.toList=l at*;have key:∀l:List MapEntry,(l.filter fun x=>!(seen.push e.born).contains x.born).length<=(l.filter fun x=>!seen.contains x.born).length/\(e∈(l.filter fun x=>!seen.contains x.born)->(l.filter fun x=>!(seen.push e.born).contains x.born).length<(l.filter fun x=>!seen.contains x.born).length):=by
  intro l
  induction l with
  |nil=>exact⟨Nat.le_refl _,fun h=>by simp at h⟩
  |cons x l ih=>
   have G:seen.contains x.born=true->(seen.push e.born).contains x.born=true:=fun h=>by rw[Array.contains_push,h];simp
   by_cases C:seen.contains x.born=true
   .have B:=G C;simp only[List.filter_cons,C,B,Bool.not_true,Bool.false_eq_true,if_false];exact ih
   .have F:seen.contains x.born=false:=by simpa using C
    by_cases B:(seen.push e.born).contains x.born=true
    .simp only[List.filter_cons,F,B,Bool.not_true,Bool.not_false,Bool.false_eq_true,if_false,if_true,List.length_cons];exact⟨by omega,fun _=>by omega⟩
    .have D:(seen.push e.born).contains x.born=false:=by simpa using B
     simp only[List.filter_cons,F,D,Bool.not_false,if_true,List.length_cons];refine⟨by omega,fun hm=>?_⟩;rw[List.mem_cons] at hm;rcases hm with rfl|hm
     .rw[Array.contains_push] at D;simp at D
     .have:=ih.2 hm;omega
 exact(key l).2 E
theorem Tryz.infoCall:(Tryz.prog.info? 197).map (fun i=>(i.zero,i.size,i.bytes))=some (some (.agg #[.string ByteArray.empty,.nilFunc,.nilFunc]),3,32):=by kernel_rfl
theorem TY(w:World):(zeroValue 203).run Tryz.prog w=.ok (.slice none 0 0) w:=by kernel_rfl
def fI(s:ByteArray)(f g:Nat)(lv:Value):List Value:=[.string s,.func (.func f) #[] #[.pointer (some ⟨g,0,none⟩)],lv]
def oV(w:World)(D:Nat):Prop:=∃B:List (ByteArray×Value),eX w D B/\B.Pairwise (fun p q=>p.1≠q.1)/\
 (∃A c C E,(gfN,.slice A 2 c)∈B/\RG 3 w (.slice A 2 c) [fI ⟨#[78]⟩ 191 C .nilFunc,fI ⟨#[78,78,76]⟩ 191 E .nilFunc]/\Blk w C 202 [.func (.func 133) #[] #[]])/\
 (∃A c g p f a c',(D8,.slice A 1 c)∈B/\RG 3 w (.slice A 1 c) [fI ⟨#[70,78]⟩ 290 g (.func f a c')]/\Blk w g 255 [.func (.func 288) #[] #[.pointer (some ⟨p,0,none⟩)]]/\Blk w p 253 [.func (.func 204) #[] #[]])
theorem BO{P:Program}{T K E:TypeId}(hT:P.underlying T=some (.map K E)){w:World}{b:Nat}{l:List (ByteArray×Value)}(h:eX w b l):(Instr.range T (.map (some b))).run P w=.ok (.pointer (some ⟨w.heap.size,0,none⟩)) (w.alloc (.mapIter (some b) l.length #[] l.length)):=by unfold eX at h;simp only[Instr.range,Sem.run_bind,run_underlying hT,Result.andThen,Go.MapKept.run_getObj_map (P:=P) h];rfl
theorem LG:∀{l:List (ByteArray×Value)} {i j:Nat},j<l.length->({key:=.string (l.getD j (ByteArray.empty,.nilFunc)).1,val:=(l.getD j (ByteArray.empty,.nilFunc)).2,born:=i+j}:MapEntry)∈iN l i
 |[],_,_,h=>absurd h (by simp)
 |p::l,i,0,_=>by simp[iN]
 |p::l,i,j+1,h=>by
  have:=LG (l:=l) (i:=i+1) (j:=j) (by simpa using h)
  rw[iN,List.mem_cons];refine .inr ?_;rw[show i+(j+1)=i+1+j by omega];simpa using this
theorem Q3{a b c:World}{row A:Option Nat}(h:a.grownBy b row)(k:b.grownBy c A)(C:∀j,A=some j->a.heap.size<=j):a.grownBy c row:=
 ⟨k.os.trans h.os,k.tape.trans h.tape,k.output.trans h.output,aZ6 h.size k.size,fun i hi B=>(k.block i (aY1 hi h.size) (fun e=>by have:=C i e.symm;omega)).trans (h.block i hi B)⟩
theorem fQ.entry{w:World}{b:Nat}{A:List ByteArray}{l:List (ByteArray×Value)}(h:fQ w b A l){e:MapEntry}(E:e∈iN l 0):∃j s g f a c,j<A.length/\e={key:=.string (A.getD j ByteArray.empty),val:=cX s 290 g (.func f a c),born:=j}/\l.getD j (ByteArray.empty,.nilFunc)=(A.getD j ByteArray.empty,cX s 290 g (.func f a c)):=by
 obtain⟨_,hn,G⟩:=h;obtain⟨j,B,rfl⟩:=zN E;have F:l.getD j (ByteArray.empty,.nilFunc)∈l:=by rw[aZ4,aZ3 B];exact aY6 B
 obtain⟨s,g,f,a,c,D⟩:=G _ F;have C:(l.getD j (ByteArray.empty,.nilFunc)).1=A.getD j ByteArray.empty:=by rw[<-hn];simp[List.getD,B]
 refine⟨j,s,g,f,a,c,by rw[<-hn];simpa using B,by rw[C,D,Nat.zero_add],Prod.ext C D⟩
theorem PE(w:World):Calls Tryz.prog 75 #[] w (fun e w'=>∃D,e=.returned (.map (some D))/\w.heap.size<=D/\oV w' D/\Below w.heap.size w w'):=by
 have Ho:= @run_makeMap Tryz.prog;go_enter Tryz.func75,Tryz.ntmps75;go_wp2_with fail;have Ay:Hid (eX (w.alloc (.map #[] 0)) w.heap.size []):=aD (heap_alloc_new w _);have Dy:=zh (aF w (.map #[] 0));obtain⟨D,El⟩:∃b,b=w.heap.size:=⟨_,rfl⟩
 have As:Hid (w.heap.size<=D):=aD (by omega);generalize w.alloc (.map #[] 0)=x0 at*;rw[<-El] at Ay|-;clear El;refine(uI x0 ⟨#[78]⟩ (.func 133) #[] #[]).mono ?_;rintro e w1 ⟨τ,rfl,Gx,Em,C⟩;have De:=zh (Ay.on C);have Dz:=zh (aA Dy C);have Cs:=zh Em;clear Gx Em C;unfold cX;go_wp2_with fail;refine(uI w1 ⟨#[78,78,76]⟩ (.func 135) #[] #[]).mono ?_;rintro e w2 ⟨Aj,rfl,Gy,Gv,Ao⟩;have Df:=zh (De.on Ao);have Ea:=zh (aA Dz Ao);have Ct:=zh (Cs.belowS Ao);clear Gy Gv Ao;unfold cX;have Q:=aF w2 (.cells ([fI ⟨#[78]⟩ 191 τ .nilFunc,fI ⟨#[78,78,76]⟩ 191 Aj .nilFunc].flatten).toArray 197);have Ac:=zh (Blk.new w2 197 [fI ⟨#[78]⟩ 191 τ .nilFunc,fI ⟨#[78,78,76]⟩ 191 Aj .nilFunc].flatten);have ρ:=zh (Df.on Q);have Ah:=zh (aA Ea Q);have ω:=zh (Ct.belowS Q);clear Q;simp only[fI,List.flatten_cons,List.flatten_nil,List.cons_append,List.nil_append] at Ac ρ Ah ω;obtain⟨x3,Fe,hm,hg,Cl⟩:=bM (P:=Tryz.prog) Tryz.underlying136 Tryz.underlying9 ρ.out ⟨#[103,102]⟩ (.slice (some ⟨w2.heap.size,0,none⟩) 2 2) (fun p μ=>by simp at μ);go_upto_region 2 with fail;clear Fe;have Aa:Hid (eX x3 D [(gfN,.slice (some ⟨w2.heap.size,0,none⟩) 2 2)]):=aD hm;have Eb:=zh (Ah.grown hg Ah.size (fun k e=>by have:=aZ0 e;have:=As.out;omega));have Cd:∀{k:Nat} {t:TypeId} {cs:List Value} {G:World},Blk G k t cs->eX G D []->some k≠some D:=fun R Ca e=>by obtain rfl:=aZ0 e;exact Ca.not_cells _ _ _ R
 have Bo:=zh (Ac.grown hg (Cd Ac ρ));have Cu:=zh (ω.grown hg (Cd ω ρ));clear hm hg Cl Ac ρ Ah ω Df Ea Ct De Dz Cs Ay Dy Cd;obtain⟨rg,Fb⟩:∃r,r=w2.heap.size:=⟨_,rfl⟩
 rw[<-Fb] at Aa Bo|-;clear Fb;go_wp2_with fail;refine(D6 x3).mono ?_;rintro e Hl ⟨S,ξ,rfl,Gs,Ev,⟨Ff,Fg,Fh⟩,C⟩;have Bc:=zh Ev;have Cy:=zh Fh;have Dd:=zh Fg;have Dh:Hid (S≠D):=aD (by have:=Aa.lt;omega);have Az:=zh (Aa.on C);have Ec:=zh (aA Eb C);have q:=zh (Bo.belowS C);have Cv:=zh (Cu.belowS C);clear Gs Ev Fh Fg C Aa Eb Bo Cu;go_wp2_with fail;refine(AZ Hl).mono ?_;rintro e Fk ⟨X,Ap,rfl,Ak,Ew,C⟩;have Bh:=zh Ew;have Di:Hid (X≠D):=aD (by have:=Az.lt;omega);have Bd:Hid (fQ Fk S iX ξ):=aD ⟨Bc.1.on C,Bc.2⟩;have Cz:=zh (Cy.on C);have σ:=zh (Az.on C);have Ed:=zh (aA Ec C);have Do:=zh (q.belowS C);have V:=zh (Cv.belowS C);clear Ak Ew C Az Ec q Cv Bc Cy;go_wp2_with fail;refine(EE Fk).mono ?_;rintro e Cr ⟨z,Cp,rfl,Gt,Ex,C⟩;have Bk:=zh Ex;have Dj:Hid (z≠D):=aD (by have:=σ.lt;omega);have Be:Hid (fQ Cr S iX ξ):=aD ⟨Bd.1.on C,Bd.2⟩;have Bi:Hid (fQ Cr X lX Ap):=aD ⟨Bh.1.on C,Bh.2⟩;have Da:=zh (Cz.on C);have Ba:=zh (σ.on C);have Ee:=zh (aA Ed C);have Dp:=zh (Do.belowS C);have Cw:=zh (V.belowS C);clear Gt Ex C σ Ed Do V Bd Bh Cz;go_wp2_with fail;refine(DY Cr).mono ?_;rintro e θ ⟨b4,Fj,rfl,Gu,Ey,C⟩;have Bm:=zh Ey;have Dk:Hid (b4≠D):=aD (by have:=Ba.lt;omega);have Bf:Hid (fQ θ S iX ξ):=aD ⟨Be.1.on C,Be.2⟩;have Bj:Hid (fQ θ X lX Ap):=aD ⟨Bi.1.on C,Bi.2⟩;have Bl:Hid (fQ θ z rW Cp):=aD ⟨Bk.1.on C,Bk.2⟩;have Db:=zh (Da.on C);have Dg:=zh (Ba.on C);have Ef:=zh (aA Ee C);have Dq:=zh (Dp.belowS C);have Cx:=zh (Cw.belowS C);clear Gu Ey C Ba Ee Dp Cw Be Bi Bk Da;go_upto_region 3 with fail;have C:=aF θ (.cells #[.map (some S),.map (some X),.map (some z),.map (some b4)] 204);have Ae:=zh (Blk.new θ 204 [.map (some S),.map (some X),.map (some z),.map (some b4)]);have Bg:Hid (fQ _ S iX ξ):=aD ⟨Bf.1.on C,Bf.2⟩;have Dl:Hid (fQ _ X lX Ap):=aD ⟨Bj.1.on C,Bj.2⟩;have Dm:Hid (fQ _ z rW Cp):=aD ⟨Bl.1.on C,Bl.2⟩;have Dn:Hid (fQ _ b4 vQ Fj):=aD ⟨Bm.1.on C,Bm.2⟩;have Dc:=zh (Db.on C);have Bb:=zh (Dg.on C);have Eg:=zh (aA Ef C);have Bp:=zh (Dq.belowS C);have Au:=zh (Cx.belowS C);clear C Dg Ef Dq Cx Bf Bj Bl Bm Db;generalize θ.alloc (.cells #[.map (some S),.map (some X),.map (some z),.map (some b4)] 204)=I at*;obtain⟨bs,Ek⟩:∃b,b=θ.heap.size:=⟨_,rfl⟩
 rw[<-Ek] at Ae|-;clear Ek;obtain⟨H,Bw⟩:∃H:Nat->Nat,H=fun k=>[S,X,z,b4].getD k 0:=⟨_,rfl⟩
 obtain⟨F,Cb⟩:∃F:Nat->List (ByteArray×Value),F=fun k=>[ξ,Ap,Cp,Fj].getD k []:=⟨_,rfl⟩
 have Dr:Hid (∀k,k<4->fQ I (H k) (nJ k) (F k)/\H k≠D):=aD fun k R=>by
   rw[Bw,Cb];rcases(by omega:k=0\/k=1\/k=2\/k=3) with rfl|rfl|rfl|rfl
   . exact⟨Bg.out,Dh.out⟩
   . exact⟨Dl.out,Di.out⟩
   . exact⟨Dm.out,Dj.out⟩
   . exact⟨Dn.out,Dk.out⟩
 have Ge:Hid (∀G,I.grownBy G (some D)->∀k,k<4->G.cell? ⟨bs,k,none⟩=some (.map (some (H k)))):=aD fun G hg k R=>by
   have hb:=Ae.grown hg (fun e=>by obtain rfl:=aZ0 e;exact Bb.not_cells _ _ _ Ae);rw[hb.cell k,Bw];rcases(by omega:k=0\/k=1\/k=2\/k=3) with rfl|rfl|rfl|rfl<;>rfl
 obtain⟨T,Cq,Z,W,Y,rfl,Gz,He,Eo,Ez⟩:=Dc.out;have Fo:Hid (∀s g f a c,(D8,cX s 290 g (.func f a c))=(F 0).getD 5 (ByteArray.empty,.nilFunc)->fI s 290 g (.func f a c)=fI ⟨#[70,78]⟩ 290 T (.func Z W Y)):=aD fun s g f a c h=>by
   obtain⟨j,M,Ep⟩:=List.mem_iff_getElem.1 Dd.out;have hn:=Bg.2.1;have Ha:j<iX.length:=by rw[<-hn];simpa using M
   have Hb:pZ 0 j=D8:=by show iX.getD j ByteArray.empty=_;rw[<-hn];simp[List.getD,M,Ep];rfl
   have δ:=(tU (by decide) (by decide) Ha tB.2 (Hb.trans tB.1.symm)).2;subst δ;have:(F 0).getD 5 (ByteArray.empty,.nilFunc)=(D8,cX ⟨#[70,78]⟩ 290 T (.func Z W Y)):=by rw[Cb];show ξ.getD 5 _=_;rw[aZ4,aZ3 M,Ep];rfl
   rw[this] at h;have J:=(Prod.mk.inj h).2;unfold cX at J;injection J with J
   have O:=congrArg Array.toList J;simpa[fI] using O
 have Av:=zh Eo;have Aw:=zh Ez;have Af:Hid (vM I D I.heap.size (.slice (some ⟨rg,0,none⟩) 2 2) (fI ⟨#[70,78]⟩ 290 T (.func Z W Y)) (Vis 0 #[])):=aD ⟨_,Bb.out,List.pairwise_singleton _ _,fun p μ=>.inl (by rw[List.mem_singleton] at μ;rw[μ]),by simp,fun Ff=>by
   rcases Ff with⟨i,j,hi,_⟩|⟨j,_,ε,_⟩
   . omega
   . simp at ε⟩
 clear Bw Cb Ae Bg Dl Dm Dn Dc Bb Dh Di Dj Dk Dd Gz He Eo Ez;have Bq:Hid (∀G,I.grownBy G (some D)->∀k,k<4->fQ G (H k) (nJ k) (F k)/\H k≠D):=aD fun G hg k R=>by obtain⟨K,J⟩:=Dr.out k R;exact⟨⟨K.1.grown hg (fun e=>J (aZ0 e)),K.2⟩,J⟩
 have At:Hid (D<I.heap.size):=aD (by obtain⟨lt,h,_⟩:=Af.out;exact h.lt);have Fm:Hid (∀G,I.grownBy G (some D)->Blk G rg 197 [.string ⟨#[78]⟩,.func (.func 191) #[] #[.pointer (some ⟨τ,0,none⟩)],.nilFunc,.string ⟨#[78,78,76]⟩,.func (.func 191) #[] #[.pointer (some ⟨Aj,0,none⟩)],.nilFunc]/\Blk G τ 202 [.func (.func 133) #[] #[]]/\Blk G T 255 [.func (.func 288) #[] #[.pointer (some ⟨Cq,0,none⟩)]]/\Blk G Cq 253 [.func (.func 204) #[] #[]]):=aD fun G hg=>by
   obtain⟨lt,hm,_⟩:=Af.out;have Aq:∀{k:Nat} {t:TypeId} {cs:List Value},Blk I k t cs->some k≠some D:=fun R e=>by obtain rfl:=aZ0 e;exact hm.not_cells _ _ _ R
   exact⟨Bp.grown hg (Aq Bp),Au.grown hg (Aq Au),Av.grown hg (Aq Av),Aw.grown hg (Aq Aw)⟩
 clear Dr Bp Au Av Aw;go_loopw [17] (fun i wr=>∃k:Nat,k<=4/\i=.int .i64 (k:Int)/\Hid (vM wr D I.heap.size (.slice (some ⟨rg,0,none⟩) 2 2) (fI ⟨#[70,78]⟩ 290 T (.func Z W Y)) (Vis k #[]))/\Hid (I.grownBy wr (some D))) (fun i _=>4-(intOf i).toNat)
 case atStart=>exact⟨0,aZ5 _,rfl,Af,aD (aN (bE I) (some D))⟩
 case round=>
   clear Af;obtain⟨k,R,rfl,v,y⟩:=hrel;by_cases ζ:k<4
   . have Gw:=Ge.out wr y.out k ζ;have Fc:=BO (P:=Tryz.prog) Tryz.underlying204 (Bq wr y k ζ).1.1;obtain⟨n,hn⟩:∃n,n=(F k).length:=⟨_,rfl⟩
     rw[<-hn] at Fc;go_upto_region 6 with fail;have Ck:=heap_alloc_new wr (.mapIter (some (H k)) n #[] n);have Du:=zh (v.grown (row:=none) (aN (aF wr (.mapIter (some (H k)) n #[] n)) none) (fun r e=>by cases e));have Dx:=zh (Q1 y (.mapIter (some (H k)) n #[] n));rw[<-hn];generalize wr.alloc (.mapIter (some (H k)) n #[] n)=wA at*;obtain⟨E,Ci⟩:∃r,r=wr.heap.size:=⟨_,rfl⟩
     rw[<-Ci] at Ck|-;have Ad:Hid (I.heap.size<=E):=aD (by rw[Ci];exact y.size);clear Gw Fc v y Ci;have Es:decide ((k:Int)<4)=true:=decide_eq_true (by omega);rw[Es];clear Es;go_loopw [23] (fun _ G=>Hid (∃seen Ai,G.heap[E]?=some (.mapIter (some (H k)) n seen Ai)/\n<=Ai/\vM G D I.heap.size (.slice (some ⟨rg,0,none⟩) 2 2) (fI ⟨#[70,78]⟩ 290 T (.func Z W Y)) (Vis k seen))/\Hid (I.grownBy G (some D))) (fun _ G=>LC (H k) E G)
     case atStart=>exact⟨aD ⟨#[],n,Ck,Nat.le_refl _,Du.out⟩,Dx⟩
     case round=>
       clear Du Dx Ck;obtain⟨Ax,Ag⟩:=hrel;obtain⟨seen,Ai,o,ε,hT⟩:=Ax.out;obtain⟨ι,Eh⟩:=Bq.out wr Ag.out k ζ;have v:=zh hT;have Fw:=zh ι;have d:=ι.1;unfold eX at d;have Bx:∀x∈(iN (F k) 0).toArray.toList,x.born<n:=fun x Hg=>by obtain⟨j,M,rfl⟩:=zN (by simpa using Hg);simpa[hn] using M
       have Fx:Hid (LC (H k) E wr=(leftOf (iN (F k) 0).toArray seen).size):=aD (by unfold LC;rw[d,o]);rcases Go.run_next_at (P:=Tryz.prog) wr 0 E (H k) n Ai seen _ _ o d Bx ε with⟨Bv,κ⟩|⟨e,N,w1,Fi,κ⟩
       . clear Ax o ε hT ι Eh d Bx;have Gf : Hid (vM wr D I.heap.size (.slice (some ⟨rg, 0, none⟩) 2 2) (fI ⟨#[70, 78]⟩ 290 T (.func Z W Y)) (Vis (k + 1) #[])) := aD (v.iff fun u => Vis.all fun j M => by
           have Ca:=Fw.2.1;rw[<-Ca,aY7] at M;cases Cl:seen.contains j with
           |true=>rfl
           |false=>
             exfalso;have hm:({key:=.string ((F k).getD j (ByteArray.empty,.nilFunc)).1,val:=((F k).getD j (ByteArray.empty,.nilFunc)).2,born:=j}:MapEntry)∈iN (F k) 0:=by have:=LG (i:=0) M;rwa[Nat.zero_add] at this
             have Ei:({key:=.string ((F k).getD j (ByteArray.empty,.nilFunc)).1,val:=((F k).getD j (ByteArray.empty,.nilFunc)).2,born:=j}:MapEntry).born=j:=rfl;generalize ({key:=.string ((F k).getD j (ByteArray.empty,.nilFunc)).1,val:=((F k).getD j (ByteArray.empty,.nilFunc)).2,born:=j}:MapEntry)=e0 at hm Ei;have hb:e0.born=j:=Ei;have K:e0∈(leftOf (iN (F k) 0).toArray seen):=by unfold leftOf;rw[Array.mem_filter];exact⟨by simpa using hm,by rw[hb,Cl];rfl⟩
             have:=Array.size_pos_of_mem K;omega)
         clear Bv;go_wp2_with fail;exact⟨⟨k+1,by omega,by push_cast;rfl,Gf,Ag⟩,by simp only[intOf];omega⟩
       . obtain ⟨j, s, g, f, a, c, M, rfl, Cm⟩ := ι.entry (e := e) (by unfold leftOf at N; rw [Array.toList_filter] at N; simpa using (List.mem_filter.1 N).1);have Er : seen.contains j = false := by
           unfold leftOf at N;rw[Array.toList_filter] at N;simpa using(List.mem_filter.1 N).2
         have Fq:Hid ((leftOf (iN (F k) 0).toArray (seen.push j)).size<(leftOf (iN (F k) 0).toArray seen).size):=aD (U3 N);obtain⟨nm,Cf⟩:∃nm,(nJ k).getD j ByteArray.empty=nm:=⟨_,rfl⟩
         have Ab:Hid (pZ k j=nm):=aD Cf;have Bz:({key:=.string ((nJ k).getD j ByteArray.empty),val:=cX s 290 g (.func f a c),born:=j}:MapEntry)∈(iN (F k) 0).toArray.toList:=by unfold leftOf at N;rw[Array.toList_filter] at N;exact(List.mem_filter.1 N).1
         have Eu:((iN (F k) 0).toArray.toList.map (·.born)).Nodup:=by show((iN (F k) 0).map (·.born)).Nodup;rw[CP];exact List.nodup_range'
         rw[Cf] at κ Bz Cm;dsimp only at κ;have Co:wr.grownBy w1 (some E)/\w1.heap=wr.heap:=by
           rcases Fi with rfl|rfl
           . exact⟨aN (bE _) _,rfl⟩
           . exact⟨aN (aH _) _,rfl⟩
         have Fa:E<w1.heap.size:=by
           rw[Co.2];rcases Nat.lt_or_ge E wr.heap.size with h|h
           . exact h
           . rw[Array.getElem?_eq_none h] at o;cases o
         obtain⟨L,An⟩:∃L,L=setBlock w1 E (.mapIter (some (H k)) n (seen.push j) (F k).length):=⟨_,rfl⟩
         rw[<-An] at κ;have Cj:L.heap[E]?=some (.mapIter (some (H k)) n (seen.push j) n):=by rw[An,hn];unfold setBlock;simp[Fa]
         have Al:wr.grownBy L (some E):=aX Co.1 (by rw[An];exact wU _);have Ej:some (H k)≠some E:=fun e=>by rw[aZ0 e,o] at d;cases d
         have Ak:=(Al.block _ ι.1.lt Ej).trans d;have By:=Go.run_entry_at (P:=Tryz.prog) L E (H k) n seen _ _ _ (by rw[<-hn];exact Cj) Ak Bz Eu;dsimp only at By;have Dw:=zh (Q3 Ag Al (fun j e=>by have:=aZ0 e;have:=Ad.out;omega));have Dt:=zh (v.grown Al (fun r e=>⟨by have:=aZ0 e;have:=Ad.out;have:=At.out;omega,by obtain rfl:=aZ0 e;intro cs t Hm h;rw[o] at h;cases h⟩));have Fp:Hid (k=0->j=5->fI s 290 g (.func f a c)=fI ⟨#[70,78]⟩ 290 T (.func Z W Y)):=aD fun Bt Bu=>by subst Bt Bu;refine Fo.out s g f a c ?_;rw[Cm,<-Ab.out,tB.1]
         have Bn:=zh Cj;have π:=zh (And.intro M Er);unfold cX at κ By;clear Ax Ag v o ε hT ι Eh d Bx Co Fi An Al Ej Ak Bz Eu Cf Cm N Fa M Er Cj;go_upto_region 7 with fail;clear κ;go_upto_region 8 with fail;have ν:Below L.heap.size L (L.alloc (.cells #[.string s,.func (.func 290) #[] #[.pointer (some ⟨g,0,none⟩)],.func f a c] 197)):=aF L _;have χ:=Blk.new L 197 [.string s,.func (.func 290) #[] #[.pointer (some ⟨g,0,none⟩)],.func f a c];change Blk (L.alloc (.cells #[.string s,.func (.func 290) #[] #[.pointer (some ⟨g,0,none⟩)],.func f a c] 197)) _ _ _ at χ;generalize L.alloc (.cells #[.string s,.func (.func 290) #[] #[.pointer (some ⟨g,0,none⟩)],.func f a c] 197)=U at*;clear By;have Am:E<L.heap.size:=by
           rcases Nat.lt_or_ge E L.heap.size with h|h
           . exact h
           . have:=Bn.out;rw[Array.getElem?_eq_none h] at this;cases this
         have Ds:Hid (U.heap[E]?=some (.mapIter (some (H k)) n (seen.push j) n)):=aD ((ν.block E Am).trans Bn);have Bs:=zh (aX Dw (aN ν (some D)));have Br:=zh (Dt.grown (row:=none) (aN ν none) (fun r e=>by cases e));have Hh:=χ.cell 0;have Hi:=χ.cell 1;have Hj:=χ.cell 2;simp only[List.getElem?_cons_zero,List.getElem?_cons_succ] at Hh Hi Hj;have Gj:Hid (I.heap.size<=U.heap.size):=aD Bs.size;have Ce:∀l:List (ByteArray×Value),(∀p∈l,p.1=gfN\/Vis k seen p.1)->∀p∈l,p.1≠nm:=fun l O p μ e=>by
           rcases O p μ with h|h
           . exact KY ζ π.1 (by rw[Ab.out,<-e,h])
           . rw[e,<-Ab.out] at h;exact Vis.new ζ π.1 π.2 h
         have Hn:(Instr.lookup 136 (.map (some D)) (.string nm) false).run Tryz.prog U=.ok (.slice none 0 0) U:=by obtain⟨lt,K,J,O,φ,δ⟩:=Br.out;exact O0 (P:=Tryz.prog) Tryz.underlying136 Tryz.underlying9 K nm (Ce lt O) (TY U)
         have Fz:=zh Ce;have Fy:=zh (oH U 197 (fI s 290 g (.func f a c)));have Gi:=zh (fM (w:=U) (B:=I.heap.size) Gj (.cells (fI s 290 g (.func f a c)).toArray 197));have Gb:Hid (∀u∈fI s 290 g (.func f a c),u.oneCell'=true):=aD fun u η=>by simp only[fI,List.mem_cons,List.not_mem_nil,or_false] at η;rcases η with rfl|rfl|rfl<;>rfl
         have Q:=aF U (.cells (fI s 290 g (.func f a c)).toArray 197);have Gk:=zh (aX Bs (aN Q (some D)));have Gh:=zh (Br.grown (row:=none) (aN Q none) (fun r e=>by cases e));have Gd:Hid _:=aD ((Q.block E (aY1 Am ν.size)).trans Ds);have Gc:Hid (E<_):=aD (aY1 Am (aZ6 ν.size Q.size));clear χ ν Ce Q Br Bs Ds Dt Dw Bn Am;go_wp2_with (
           at_builtin;refine fE rfl 197 203 3 32 _ Tryz.underlying203 Tryz.infoCall rfl (by decide) (by decide) _ _ rfl I.heap.size (.slice none 0 0) [] rfl (RO.nil _ _ _ _) U.heap.size 1 (fI s 290 g (.func f a c)) rfl rfl Fy.out Gb.out (by decide) Gi.out ?_;intro Hp Ar Ch ψ _;obtain⟨Fl,Gl,rfl⟩:=Ch.form';change World.grownBy _ _ none at ψ;have Dv:=zh (Q3 Gk ψ (fun r e=>by cases e));have Gg:=zh (Gh.grown ψ (fun r e=>by cases e));have q:Hid _:=aD ((ψ.block E Gc (by simp)).trans Gd);have Ga:=zh Ch;obtain⟨lt,K,J,O,φ,δ⟩:=Gg.out;have Fr:=zh K;have Fs:=zh J;have Ft:=zh O;have Fu:=zh φ;have Fv:=zh δ;obtain⟨Hk,Fe,Et,En,Hf⟩:=bM (P:=Tryz.prog) Tryz.underlying136 Tryz.underlying9 K nm (.slice Fl 1 Gl) (Fz lt O);have σ:=zh Et;have V:=zh En;clear K J O φ δ Et En Hf Ch ψ)
         refine⟨⟨aD ⟨seen.push j,n,?_,Nat.le_refl _,?_⟩,aD (aX Dv V)⟩,?_⟩
         . have Cc:E<Ar.heap.size:=by
             rcases Nat.lt_or_ge E Ar.heap.size with h|h
             . exact h
             . have:=q.out;rw[Array.getElem?_eq_none h] at this;cases this
           exact(V.block E Cc (fun e=>by have:=aZ0 e;have:=Ad.out;have:=At.out;omega)).trans q.out
         . have hm:=σ.out;rw[<-Ab.out] at hm;exact vM.ins ζ π.1 π.2 Fs.out Ft.out Fu.out Fv.out hm ⟨_,Fr.out⟩ V.out Ga.out Fp.out
         . have Cc:E<Ar.heap.size:=by
             rcases Nat.lt_or_ge E Ar.heap.size with h|h
             . exact h
             . have:=q.out;rw[Array.getElem?_eq_none h] at this;cases this
           have K:=(V.block E Cc (fun e=>by have:=aZ0 e;have:=Ad.out;have:=At.out;omega)).trans q.out;have J:=(Bq.out Hk (aX Dv V) k ζ).1.1;unfold eX at J;rw[Fx.out];unfold LC;rw[K,J];exact Fq.out
   . obtain rfl:k=4:=by omega
     go_wp2_with fail;go_ret;obtain⟨lt,K,J,O,φ,δ⟩:=v.out;obtain⟨A,c,Gp,Gq⟩:=δ (.inl ⟨0,5,by decide,tB.2,tB.1.symm⟩);obtain⟨Bt,Bu,Gm,Gn⟩:=Fm.out wr y.out;refine⟨D,rfl,As.out,⟨lt,K,J,⟨_,_,τ,Aj,φ,⟨_,_,rfl,fun k R=>⟨_,rfl,fun j u η=>?_⟩⟩,Bu⟩,⟨A,c,T,Cq,Z,W,Y,Gp,Gq.rg,Gm,Gn⟩⟩,Eg.grown y Eg.size (fun k e=>by have:=aZ0 e;have:=As.out;omega)⟩;have Hc:k=0\/k=1:=by simp only[List.length_cons,List.length_nil] at R;omega
     have ε:=Bt.cell (k*3+j);have Gr:(⟨rg,0,none⟩:Addr).add (k*3+j)=⟨rg,k*3+j,none⟩:=by generalize k*3+j=m;unfold Addr.add;by_cases Bv:m=0<;>simp[Bv]
     rw[Gr,ε];rcases Hc with rfl|rfl
     . have M:j<3:=(List.getElem?_eq_some_iff.1 η).1;rcases(by omega:j=0\/j=1\/j=2) with rfl|rfl|rfl<;>exact η
     . have M:j<3:=(List.getElem?_eq_some_iff.1 η).1;rcases(by omega:j=0\/j=1\/j=2) with rfl|rfl|rfl<;>exact η
end Go.Proofs.YtpfhoemohibniaaGreatDoor
