/- Texts put together: The row of WorldPlays. Conditions: none. -/
import Derived.Test.YtfhkgohokbkgiaaGreatDoorMgWorldPlays2
import Derived.Test.YtfhkgohokbkgiaaGreatDoorRows
import Derived.WalkKit
import Derived.ProofKit
import Derived.OpenShut
import Derived.ShutString
import Derived.ChangeOld
import Derived.Below
import Derived.SizedLaws
import Derived.ChangeSame
import Derived.ChangeVars
import Derived.JoinedOf
import Derived.RowKit
import Derived.RowKitTokens
import Derived.LaidLaws
import Derived.LaidHandle
import Derived.Stop.Joined
import Derived.SevenTiedAt
import Derived.Test.YtfhkgohokbkgiaaGreatDoorCards
import Derived.Test.YtfhkgohokbkgiaaGreatDoorTie
set_option linter.unusedVariables false
set_option maxRecDepth 100000
namespace Go.Proofs.YtfhkgohokbkgiaaGreatDoor.worldPlays
open Go.ChangeShapes Go.WideShapes Go.ChangeAt Go.RowKit Go.Proofs.YtfhkgohokbkgiaaGreatDoor
theorem own :ownKnob Tryz.prog.godebug=none:=by kernel_rfl
theorem Zqz :laidOutB Tryz.prog=true:=by kernel_rfl
abbrev ZkW {H:Type}:List (String×DataW H):=[("errors.errorType",Rows.laid_errors_errorType)]
theorem et :Tryz.prog.globalNamed "errors.errorType" =some 0:=by kernel_rfl
theorem rt :(Tryz.prog.cutTypes.find? (·.1== "internal/reflectlite.rtype")).map (·.2)=some 261:=by kernel_rfl
theorem ZrF :((List.range Tryz.prog.types.size).filter fun t=>Tryz.prog.rowNamed t [101,114,114,111,114])=[123]:=by kernel_rfl
theorem Zfz {W:World}(h:laidMetH Tryz.prog ZkW W):W.cell? ⟨0,0,none⟩=some Zsw:=by
 have h':laidMet Tryz.prog [] W∧handlesMet Tryz.prog ZkW W:=h;obtain⟨name,u,ty,e1,e2,e3,e4,e5⟩:=h'.2 _ (List.mem_singleton.2 rfl);have en:name=[101,114,114,111,114]:=(Option.some.inj e1).symm;subst en;obtain rfl:=Option.some.inj (rt.symm.trans e2);have hm:ty∈(List.range Tryz.prog.types.size).filter fun t=>Tryz.prog.rowNamed t [101,114,114,111,114]:=List.mem_filter.2 ⟨List.mem_range.2 e3,e4⟩
 rw[ZrF]at hm;obtain rfl:=List.mem_singleton.1 hm;have hh:typeHandle Tryz.prog 123= .pointer (some ⟨1,123,none⟩):=by kernel_rfl
 rw[hh]at e5;have h9:W.cell? ⟨0,0,none⟩=some (.iface 261 (.agg #[.pointer (some ⟨1,123,none⟩)])):=by simpa using World.var?_cell et e5 0
 exact h9
noncomputable def laidWorld (os:Os):World:=
 let w0:=World.holding Tryz.prog os ⟨#[], #[],[]⟩
 { w0 with heap:=w0.heap.modify 0 fun
   | .cells _ t frozen=> .cells #[.iface 261 (.agg #[.pointer (some ⟨1,123,none⟩)])] t frozen
   |o=>o}
theorem Zgq (os:Os)(args:Array Value):laidMetH Tryz.prog ZkW ((laidWorld os).forCall (fun _ _=>0) ⟨#[],args,[]⟩).memory:=
 laidMetH_of_parts (laidMet_nil _ _) Kr
theorem Ztd (os:Os)(started:os.Started)(H:Type)(enc:TypeId×Value→H):
  ReturnsInHanded {} Tryz.checked os 10 .any (fun w args=>(Rows.worldPlaysSpec.pre enc Tryz.prog Tryz.f10 [] false w args∧laidMetH Tryz.prog ZkW w)∧sizedMet enc Tryz.prog Tryz.f10 (OpenSpec.ofChange Rows.worldPlaysSpec) false w args) (Rows.worldPlaysSpec.post enc Tryz.prog Tryz.f10 false true false false):=by
 refine returnsInHanded_of_change_and (C:=Tryz.checked) (X:=fun w _=>laidMetH Tryz.prog ZkW w) (fun _ _ _ hh h=>h.of_heap hh) own started Kr Tryz.func10
  (ChangeSpec.witness_at (enc:=enc) (C:=Tryz.checked) (os:=os) (X:=fun w _=>laidMetH Tryz.prog ZkW w) false (laidWorld os) #[.slice none 0 0] 8 rfl Kr Kr Kr Kr Kr (Zgq os _)) ?_
 intro W base args ds gs before hval0 hW hcnd hsz0 hL _;have hE:=Zfz hL;have hval:∀(j:Nat) t v,Tryz.f10.params[j]? =some t→args[j]? =some v→Value.okWide Tryz.prog W .any base t v:=hval0;have hW':=hW;obtain⟨p,q,hA0,hV,rfl,hfz,hnd⟩:=hW;have hA:DataW.TrodAll enc Tryz.prog W 0 (fun _=>true) true Tryz.f10.params.toList args.toList ds p:=hA0;rw[Tryz.params10]at hA hval;obtain⟨v0,vs0,d0,ds0,p0,q0,hargs,rfl,rfl,h0,r0⟩:=trodAll_cons hA;obtain⟨rfl,rfl,rfl⟩:=trodAll_nil r0;obtain rfl:args= #[v0]:=by cases args;simp_all
 obtain⟨rfl,rfl⟩:=trodVars_none hV;have k0:=h0;have lt0:∀x∈p0,x.block<W.heap.size:=by obtain⟨m,hm⟩:=k0;exact DataW.trod_lt m _ _ _ hm
 obtain⟨ao0,c0,l0,rfl,hrd0,hl0⟩:=Opens.arg Tryz.underlying69 Kr (ZgQ W) (hval 0 69 v0 rfl rfl) h0;clear hA0 hval0 hsz0;refine(Zmo W hE ao0 c0 l0 hrd0 hl0).mono fun e W' ⟨he,hU⟩=>?_
 have bel:=hU;subst he;exact⟨_,rfl,_,_,_,[],_,[],hW',trodAll_mk1 (shut_bool Tryz.underlying4 _),(trodAll_cons_mk (Below.trod Zqz Kr (of_decide_eq_true Kr) k0 bel lt0) trodAll_mk0),rfl,bel.frame _,fun h=>by cases h⟩
end Go.Proofs.YtfhkgohokbkgiaaGreatDoor.worldPlays
