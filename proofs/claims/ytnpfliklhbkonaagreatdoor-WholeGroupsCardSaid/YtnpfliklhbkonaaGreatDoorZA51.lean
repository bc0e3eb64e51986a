/- WholeGroups, its tied card: for every code and every map, and with the three listed tables laid as the program's text lays them, the law returns true; each argument reads behind the call as it read before. No condition beside the card's own. The walk is in WGrp. -/
import Derived.Test.YtnpfliklhbkonaaGreatDoorZA50
import Derived.Test.YtnpfliklhbkonaaGreatDoorZA52
import Derived.Test.YtnpfliklhbkonaaGreatDoorCards
import Derived.Test.YtnpfliklhbkonaaGreatDoorTie
import Derived.LaidMore
import Derived.LaidHandle
import Derived.LaidOnce
import Derived.SevenTiedAt
import Derived.Stop.Joined
set_option maxRecDepth 99999
set_option maxHeartbeats 0
namespace Go.Proofs.YtnpfliklhbkonaaGreatDoor.wholeGroups
open Go.ChangeShapes Go.WideShapes Go.ChangeAt Go.RowKit
def O2:List (String×DataW Unit):=[("math/bits.deBruijn32tab",Rows.laid_math_bits_deBruijn32tab),("math/bits.deBruijn64tab",Rows.laid_math_bits_deBruijn64tab),("internal/strconv.uint64pow10",Rows.laid_internal_strconv_uint64pow10)]
theorem V7(os:Os)(args:Array Value):laidMetH Tryz.prog O2 ((World.doorLaid Tryz.prog 24 os).forCall (fun _ _=>0) ⟨#[],args,[]⟩).memory:=
 laidMetH_of_parts3 (fuel:=8) (laidMet_of_run' 8 (by kernel_rfl) (by kernel_rfl)) (by kernel_rfl) (by kernel_rfl)
theorem lifted(os:Os)(a:os.Started)(H:Type)(enc:TypeId×Value->H):
  ReturnsInHanded {} Tryz.checked os 3 .any (fun w args=>(Rows.wholeGroupsSpec.pre enc Tryz.prog Tryz.f3 [] false w args/\laidMetH Tryz.prog O2 w)/\sizedMet enc Tryz.prog Tryz.f3 (OpenSpec.ofChange Rows.wholeGroupsSpec) false w args)
   (Rows.wholeGroupsSpec.post enc Tryz.prog Tryz.f3 false true false false):=by
 refine returnsInHanded_of_change_and (C:=Tryz.checked) (X:=fun w _=>laidMetH Tryz.prog O2 w) (fun _ _ _ S h=>h.of_heap S) own a (by kernel_rfl) Tryz.func3
  (ChangeSpec.witness_shaped (enc:=enc) (C:=Tryz.checked) (os:=os) (X:=fun w _=>laidMetH Tryz.prog O2 w) false (World.doorLaid Tryz.prog 24 os) #[.agg #[.int .i64 0,.int .i64 0,.slice none 0 0,.int .i64 0,.slice none 0 0],.agg #[.slice none 0 0,.slice none 0 0,.int .i64 0]] 8 rfl (World.shaped_of_RefB (by kernel_rfl) (by kernel_rfl)) (by kernel_rfl) (by kernel_rfl) (by kernel_rfl) (V7 os _)) ?_
 intro W base args ds O c J I _ T _ _;have B:(DataW.weightsEach Tryz.prog (Tryz.f3.params.toList++Rows.wholeGroupsSpec.plain.varTypes Tryz.prog) (ds++O)).all (·<=reachBytes)=true:=T;have D:∀(j:Nat) t v,Tryz.f3.params[j]?=some t->args[j]?=some v->Value.okWide Tryz.prog W .any base t v:=J;have Q:=I;obtain⟨p,q,G,P,rfl,l,m⟩:=I;have hA:DataW.TrodAll enc Tryz.prog W 0 (fun _=>true) true Tryz.f3.params.toList args.toList ds p:=G;rw[Tryz.params3] at hA D B;obtain⟨M,u,d,g,n,r,k,rfl,rfl,E,V⟩:=trodAll_cons hA;obtain⟨N,x,f,i,o,s,rfl,rfl,rfl,F,Z⟩:=trodAll_cons V;obtain⟨rfl,rfl,rfl⟩:=trodAll_nil Z;obtain rfl:args=#[M,N]:=by cases args;simp_all
 obtain⟨rfl,rfl⟩:=trodVars_none P;have K:=E;have U:=SY E (D 0 27 M rfl rfl) (ij B 0 rfl rfl);have L:=F;have Y:=EO F (D 1 29 N rfl rfl) (ij B 1 rfl rfl);clear G J;refine(lz W U Y).mono fun e b ⟨R,A⟩=>?_;subst R;exact⟨_,rfl,_,_,_,[],_,[],Q,trodAll_mk1 (shut_bool Tryz.underlying4 _),(trodAll_cons_mk (Below.trod O3 (by kernel_rfl) (of_decide_eq_true (by kernel_rfl)) K A (C6 K)) (trodAll_cons_mk (Below.trod O3 (by kernel_rfl) (of_decide_eq_true (by kernel_rfl)) L A (C6 L)) trodAll_mk0)),rfl,A.frame _,fun h=>by cases h⟩
theorem TQ:Rows.WholeGroupsSaid:=
 OpenClaim.holds_of_wide 3 Tryz.f3 rfl rfl rfl rfl rfl rfl rfl ⟨rfl,rfl,rfl,rfl,rfl⟩ rfl rfl rfl rfl rfl (by kernel_rfl) Tryz.func3 Z5
  (of_decide_eq_true (by kernel_rfl)) (by unfold Func.isWrapper;first|(rw[if_pos (by decide+kernel)];kernel_rfl)|(rw[if_neg (by decide+kernel)];exact⟨rfl,rfl⟩))
  (fun os A H enc _=>lifted os A H enc)
theorem IE:Tryz.prog.funcs.any Func.goes=false:=by kernel_rfl
theorem RX(P:Program)(h:P.funcs.any Func.goes=false)(D:String):P.goesFrom D=false:=by
 have E:∀f,P.goes f=false:=fun f=>by
  unfold Program.goes;rw[h,Bool.and_false,Bool.or_false,Bool.eq_false_iff];intro B;rw[List.any_eq_true] at B;obtain⟨g,_,A⟩:=B;cases e:P.funcs[g]? with
  |none=>rw[e] at A;exact Bool.noConfusion A
  |some fn=>
   rw[e] at A;have F:Func.goes fn=true:=A;obtain⟨H,G⟩:=Array.getElem?_eq_some_iff.1 e;have C:P.funcs.any Func.goes=true:=by rw[Array.any_eq_true];exact⟨g,H,by rw[G];exact F⟩
   rw[h] at C;exact Bool.noConfusion C
 unfold Program.goesFrom;cases P.funcNamed D with
 |none=>rfl
 |some f=>exact E f
theorem QG:false=Rows.wholeGroupsRow.goesBy Tryz.pinned.checked.prog:=by
 have h:=RX Tryz.prog IE "codewright/codewrighttop.WholeGroups";show false=(Tryz.prog.goesFrom "codewright/codewrighttop.WholeGroups" ||false)
 rw[h];rfl
theorem proved:Rows.WholeGroupsCardSaid:=
 Claim7.holds_tied_plain_at .later [] [.data,.data,.data] true (true, "87642a5e1c32e955e04045f7c7e6c92ca004bc5c8766c1c335332aae2a810fb8") true
  TQ (fun _ h=>by cases h) (by kernel_rfl) (fun _ h=>by cases h) wholeGroups_row_tie rfl ⟨rfl,rfl⟩ (by kernel_rfl) rfl
  (fun f fn C D=>by
   obtain rfl:f=3:=aZ0 ((show Tryz.prog.funcNamed "codewright/codewrighttop.WholeGroups" =some 3 by kernel_rfl).symm.trans C)|>.symm;obtain rfl:fn=Tryz.f3:=(aZ0 (Tryz.func3.symm.trans D)).symm;exact⟨by kernel_rfl,fun j t A=>by
    rw[Tryz.params3] at A;have E:t∈[27,29]:=by simpa using Array.mem_of_getElem? A
    have B:([27,29].all fun u=>!Tryz.prog.wantsStandIn u)=true:=by kernel_rfl
    exact(show Tryz.prog.wantsStandIn t=false by simpa using List.all_eq_true.1 B t E)⟩)
  QG
#print axioms proved
end Go.Proofs.YtnpfliklhbkonaaGreatDoor.wholeGroups
