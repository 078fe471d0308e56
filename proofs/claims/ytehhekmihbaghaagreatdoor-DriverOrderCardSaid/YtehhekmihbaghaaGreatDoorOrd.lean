/-
  copselaw23.DriverOrder: it returns true, whatever the arguments; they read as they did: the row and its card (the row's listed variables tied to the program's text).
-/
import Derived.Test.YtehhekmihbaghaaGreatDoorVe
set_option linter.all false
namespace Go.Proofs.YtehhekmihbaghaaGreatDoor
open Go Go.ChangeShapes Go.WideShapes Go.ChangeAt Go.RowKit Go.FM
set_option maxRecDepth 100000 in
theorem driverOrder_lifted (os:Os) (started:os.Started) (H:Type) (enc:TypeId × Value→H) :
  ReturnsInHanded {} Tryz.checked os 9 .any ((OpenSpec.ofChange Rows.driverOrderSpec).preRow enc Tryz.prog Tryz.f9 [] false XX) (Rows.driverOrderSpec.post enc Tryz.prog Tryz.f9 false true false false):=by
 refine Cb started zhm Tryz.func9 (by kernel_rfl) (by kernel_rfl) (by kernel_rfl) (by kernel_rfl) rfl (fun ds hds=>?_) (by kernel_rfl) (fun W hL hsh=>Ir hL hsh)
  (ChangeSpec.witness_shaped (enc:=enc) (C:=Tryz.checked) (os:=os) (X:=fun w _=>laidMetH Tryz.prog XX w) false (sB os) #[.agg #[.int .i64 0,.int .i64 0,.slice none 0 0,.slice none 0 0],.slice none 0 0,.int .i64 0] 8 rfl (World.shaped_of_RefB (by kernel_rfl) (by kernel_rfl)) (by kernel_rfl) (by kernel_rfl) (by kernel_rfl) (It os _)) ?_
 ·rw [Tryz.params9] at hds
  match ds,hds with
  | [d0,d1,d2],_=>rfl
 intro W base vs ds p hA hval hwt;have hps:Tryz.f9.params.toList=[25,26,3]:=by rw [Tryz.params9]
 rw [hps] at hA;obtain ⟨v0,vs0,d0,ds0,q0,u0,rfl,rfl,rfl,h0,hA⟩:=trodAll_cons hA;obtain ⟨v1,vs1,d1,ds1,q1,u1,rfl,rfl,rfl,h1,hA⟩:=trodAll_cons hA;obtain ⟨v2,vs2,d2,ds2,q2,u2,rfl,rfl,rfl,h2,hA⟩:=trodAll_cons hA;obtain ⟨rfl,rfl,rfl⟩:=trodAll_nil hA;obtain ⟨g0,hg0,r0⟩:=mR (n:=8) (t:=25) (ks:=[.z,.z,.list false [.z],.list true [.z,.list false [.z],.list false [.z],.list false [.z],.list false [.z]]]) (by kernel_rfl) (by kernel_rfl) (hval 0 25 v0 (by rw [hps]; rfl) rfl) h0 (hwt 0 25 d0 (by rw [hps]; rfl) rfl);obtain ⟨x0_0,x0_1,x0_2,x0_3,rfl⟩:∃ x0_0 x0_1 x0_2 x0_3,g0=[x0_0,x0_1,x0_2,x0_3]:=by
  match g0,hg0 with
  | [x0_0,x0_1,x0_2,x0_3],_=>exact ⟨_,_,_,_,rfl⟩
 obtain ⟨x1,r1⟩:=dQ (n:=8) (t:=26) (k:=(.list true [.z,.z,.z,.z,.z,.z,.bool,.list false [.z]])) (by kernel_rfl) (by kernel_rfl) (hval 1 26 v1 (by rw [hps]; rfl) rfl) h1 (hwt 1 26 d1 (by rw [hps]; rfl) rfl);obtain ⟨x2,r2⟩:=dQ (n:=8) (t:=3) (k:=.z) (by kernel_rfl) (by kernel_rfl) (hval 2 3 v2 (by rw [hps]; rfl) rfl) h2 (hwt 2 3 d2 (by rw [hps]; rfl) rfl);refine ⟨[.agg [.int .i64 x0_0.toInt,.int .i64 x0_1.toInt,.list false [.z] x0_2.toList,.list true [.z,.list false [.z],.list false [.z],.list false [.z],.list false [.z]] x0_3.toList],.list true [.z,.z,.z,.z,.z,.z,.bool,.list false [.z]] x1.toList,.int .i64 x2.toInt],rfl,rfl,?_⟩;simp only [List.map_cons,List.map_nil,EQ,VRels];exact ⟨r0,r1,r2,trivial⟩
theorem driverOrder_k1:(Rows.driverOrderRow.inPlace==Tryz.prog.inPlace 9)=true:=by kernel_rfl
theorem driverOrder_k2:(Rows.driverOrderRow.unfollowed==Tryz.prog.unfollowed 9)=true:=by kernel_rfl
theorem driverOrder_k3:(Rows.driverOrderRow.recurses==Tryz.prog.recurses 9)=true:=by kernel_rfl
theorem driverOrder_k4:(Rows.driverOrderRow.named==Tryz.prog.varsNamed 9)=true:=by kernel_rfl
theorem driverOrder_facts:joinedFacts Tryz.prog 9 Tryz.f9 Rows.driverOrderSpec Rows.driverOrderRow=true:=by
 unfold joinedFacts;rw [driverOrder_k1,driverOrder_k2,driverOrder_k3,driverOrder_k4]
 kernel_rfl
theorem driverOrder_holds:Rows.DriverOrderSaid:=
 OpenClaim.holds_of_wide 9 Tryz.f9 rfl rfl rfl rfl rfl rfl rfl ⟨rfl,rfl,rfl,rfl,rfl⟩ rfl rfl rfl rfl rfl (by kernel_rfl) Tryz.func9 driverOrder_facts
  (of_decide_eq_true (by kernel_rfl)) (by unfold Func.isWrapper; first | (rw [if_pos (by decide +kernel)]; kernel_rfl) | (rw [if_neg (by decide +kernel)]; exact ⟨rfl,rfl⟩))
  (fun os started H enc _=>by rw [OpenClaim.pre_eq_preRow]; exact driverOrder_lifted os started H enc)
theorem driverOrder_card:Rows.DriverOrderCardSaid:=
 Claim7.holds_tied_plain_at .later [] [.data,.data,.data,.data,.sentinel,.sentinel,.pinned] true (true, "cbc2a0dabea9ce766bff7559522a03ff18b95308167b89218391d9d832ba0382") true
  driverOrder_holds (fun _ h=>by cases h) (by kernel_rfl) (fun _ h=>by cases h) driverOrder_row_tie rfl ⟨rfl,rfl⟩ (by kernel_rfl) rfl
  (fun f fn hf hfn=>by
   obtain rfl:f=9:=Option.some.inj ((show Tryz.prog.funcNamed "copse/copselaw23.DriverOrder" = some 9 by kernel_rfl).symm.trans hf) |>.symm
   obtain rfl:fn=Tryz.f9:=(Option.some.inj (Tryz.func9.symm.trans hfn)).symm;exact ⟨by kernel_rfl,fun j t ht=>by
    rw [Tryz.params9] at ht;have hm:t∈[25,26,3]:=by simpa using Array.mem_of_getElem? ht
    have hall:([25,26,3].all fun u=>!Tryz.prog.wantsStandIn u)=true:=by kernel_rfl
    exact (show Tryz.prog.wantsStandIn t=false by simpa using List.all_eq_true.1 hall t hm)⟩)
  (by kernel_rfl)
end Go.Proofs.YtehhekmihbaghaaGreatDoor
