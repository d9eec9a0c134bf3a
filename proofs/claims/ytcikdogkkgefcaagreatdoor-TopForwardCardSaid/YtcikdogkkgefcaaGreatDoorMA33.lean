/- The plain words of a world: what each op does. A box of things on their way: mail.New, Put, Take: a channel that its owner alone uses. A world as it lies in memory; a fresh name. world.psk. -/
import Derived.Conc.LoneCalls
import Derived.Conc.SmallLaws
import Derived.Conc.LoneSelectN
import Derived.Laws.Rows
import Derived.Test.YtcikdogkkgefcaaGreatDoorMA30
import Derived.Test.YtcikdogkkgefcaaGreatDoorMA32
namespace Go.Proofs.YtcikdogkkgefcaaGreatDoor
set_option maxRecDepth 8000
set_option maxHeartbeats 16000000
set_option linter.unusedVariables false
set_option linter.unusedSimpArgs false
open Go Go.RowKit
structure WOp where
 kind:Int
 a:Int
 b:Int
 c:Int
 name:ByteArray
 wa:Int
 wc:Int
 sl:Value
 steps:List Stp
def wopL (o:WOp):List Value:=[pI o.kind,pI o.a,pI o.b,pI o.c,.string o.name,pI o.wa,pI o.wc,o.sl]
structure Pt where
 s:Ss
 box:List Int
 dev:Int
structure Evt where
 at_:Int
 dev:Int
 note:Nt
def evtL (e:Evt):List Value:=pI e.at_::pI e.dev::ntL e.note
structure Wd where
 L:List Nd
 heard:List Int
 K:Int→Bool
 fresh:Int
 devs:List Dv
 parts:List Pt
 msgs:List (List Int)
 evs:List Evt
abbrev zAB:Nat:=32768
def Wd.dev (W:Wd)(id:Int):Option Dv:=W.devs.find? fun d=>decide (d.id=id)
def Wd.mod (W:Wd)(id:Int)(f:Dv→Dv):Wd:={ W with devs:=W.devs.map fun d=>if d.id=id then f d else d }
def Wd.has (W:Wd)(n:Int):Bool:=decide (0≤n) && decide (n<W.parts.length)
def wd0 (L:List Nd):Wd:=⟨L,[],fun _=>false,0,[],[],[],[]⟩
abbrev zJI (W:Wd):Nd:=⟨1,IntKind.u64.wrap (W.fresh+1),0,0,0⟩
def zAw (W:Wd):Wd × Int × Int :=
 ({ W with L:=(mk zAB W.L (zJI W)).1,fresh:=IntKind.u64.wrap (W.fresh+1) },(mk zAB W.L (zJI W)).2.1,(mk zAB W.L (zJI W)).2.2)
noncomputable def zAd (W:Wd)(x:Int):Wd × Int:=if Go.Proofs.YtcikdogkkgefcaaGreatDoor.has W.L x=true then({ W with heard:=W.heard++[x],K:=cl W.L (ins W.K x) },0) else(W,1)
noncomputable def zAz (W:Wd)(l:List Int):Wd:=l.foldl (fun W x=>(zAd W x).1) W
def zRM (W:Wd)(id:Int):Int × Bool :=
 match W.dev id with
 | none=>(0,false)
 | some d=>match find W.L ⟨2,0,d.secret,0,0⟩with|none=>(0,false)|some i=>(i,true)
noncomputable def zBO (W:Wd)(o:WOp):Wd × Int × Int :=
 if(W.dev o.a).isSome=true then(W,0,4)
 else if zCO o.a 1 o.b≠0 then(W,0,1)
 else if 8≤W.devs.length then(W,0,3)
 else
  let q:=zAw W
  if q.2.2≠0 then(q.1,0,q.2.2)
  else
   let u:=mk zAB q.1.L ⟨2,0,q.2.1,0,0⟩
   if u.2.2≠0 then({ q.1 with L:=u.1 },0,u.2.2)
   else((zAd { q.1 with L:=u.1,devs:=q.1.devs++[⟨o.a,q.2.1,o.b,[],[]⟩] } u.2.1).1,o.a,0)
def zEj (W:Wd)(o:WOp):Wd × Int × Int :=
 match W.dev o.a with
 | none=>(W,0,4)
 | some d=>if(zRM W o.b).2=false then(W,0,4) else(W.mod o.a fun d=>{ d with peers:=(zDK d o.b (zRM W o.b).1).1 },0,(zDK d o.b (zRM W o.b).1).2)
def pskW (W:Wd)(o:WOp):Wd × Int × Int :=
 match W.dev o.a,W.dev o.b with
 | some d,some e =>
   if(hasV d.peers o.b && hasV e.peers o.a)=false then(W,0,4)
   else
    let q:=zAw W
    if q.2.2≠0 then(q.1,0,q.2.2)
    else((q.1.mod o.a fun d=>{ d with psks:=(zBJ d o.b q.2.1).1 }).mod o.b fun d=>{ d with psks:=(zBJ d o.a q.2.1).1 },0,0)
 | _,_=>(W,0,4)
def zEX (W:Wd)(o:WOp):Wd × Int × Int :=
 match W.dev o.a with
 | none=>(W,0,4)
 | some d =>
   if(zCu o.name).2≠0 then(W,0,(zCu o.name).2)
   else
    let q:=zAX zAB W.L d (zCu o.name).1 o.b o.c 0
    if q.2.2≠0 then({ W with L:=q.1 },0,q.2.2)
    else if 64≤W.parts.length then({ W with L:=q.1 },0,3)
    else({ W with L:=q.1,parts:=W.parts++[⟨q.2.1,[],o.a⟩] },W.parts.length,0)
def ptZ:Pt:=⟨ss0 .z 0,[],0⟩
def Wd.part (W:Wd)(n:Int):Pt:=W.parts.getD n.toNat ptZ
def Wd.setPart (W:Wd)(n:Int)(x:Pt):Wd:={ W with parts:=W.parts.set n.toNat x }
noncomputable def zBC (W:Wd)(o:WOp):Wd × Int × Int :=
 if 256≤W.msgs.length then(W,0,3)
 else
  let x:=W.part o.a
  let q:=zAw W
  if q.2.2≠0 then(q.1,0,q.2.2)
  else
   let u:=zAw q.1
   if u.2.2≠0 then(u.1,0,u.2.2)
   else
    let z:=zAE zAB u.1.L x.s q.2.1 u.2.1 o.wa o.wc
    if z.2.2.2≠0 then({ u.1 with L:=z.1 },0,z.2.2.2)
    else
     let W2:=zAz ({ u.1 with L:=z.1 }.setPart o.a { x with s:=z.2.1 }) z.2.2.1
     ({ W2 with msgs:=W2.msgs++[z.2.2.1],evs:=W2.evs++[⟨o.a,x.dev,z.2.1.note⟩] },W.msgs.length,0)
def zHd (W:Wd)(o:WOp):Wd × Int × Int :=
 if o.b<0∨(W.msgs.length:Int)≤o.b then(W,0,4)
 else if(W.part o.a).box.length<8 then(W.setPart o.a { W.part o.a with box:=(W.part o.a).box++[o.b] },0,0) else(W,0,3)
def dvZ:Dv:=⟨0,0,0,[],[]⟩
def zDb (W:Wd)(o:WOp):Wd × Int × Int :=
 let x:=W.part o.a
 match x.box with
 | []=>(W,0,5)
 | n::l =>
   let z:=zAP zAB W.L x.s ((W.dev x.dev).getD dvZ) (W.msgs.getD n.toNat []) o.wa o.wc
   let W2:={ W with L:=z.1 }.setPart o.a { x with box:=l,s:=z.2.1 }
   if z.2.2.2≠0 then(W2,0,z.2.2.2) else({ W2 with evs:=W2.evs++[⟨o.a,x.dev,z.2.1.note⟩] },z.2.2.1,0)
def zCK (W:Wd)(o:WOp):Wd × Int × Int :=
 if o.b<1∨(o.steps.length:Int)<o.b then(W,0,1)
 else
  let z:=runS zAB W.heard o.steps W.L [] 0
  if z.2.2.2≠0 then({ W with L:=z.1 },0,z.2.2.2)
  else if 256≤W.msgs.length then({ W with L:=z.1 },0,3)
  else({ W with L:=z.1,msgs:=W.msgs++[z.2.1.drop (z.2.1.length - o.b.toNat)] },W.msgs.length,0)
def zB0 (W:Wd)(o:WOp):Int :=
 if o.c=0 then((W.dev o.a).getD dvZ).secret else if o.c=1 then(W.part o.a).s.note.own else getV ((W.dev o.a).getD dvZ).psks o.b
noncomputable def zBq (W:Wd)(o:WOp):Wd × Int × Int :=
 if o.c<0∨2<o.c then(W,0,1)
 else if(o.c=1∧W.has o.a=false)∨(o.c≠1∧(W.dev o.a).isSome=false)then(W,0,4)
 else if zB0 W o=0 then(W,0,10) else((zAd W (zB0 W o)).1,0,(zAd W (zB0 W o)).2)
def zB3 (W:Wd)(o:WOp):Wd × Int × Int :=
 if o.b<0∨1<o.b then(W,0,1)
 else
  let z:=zAb zAB W.L (W.part o.a).s (decide (o.b=1))
  ({ W with L:=z.1 }.setPart o.a { W.part o.a with s:=z.2.1 },0,z.2.2)
def ofW (k:Int):Bool:=decide (k=4) || decide (k=5) || decide (k=6) || decide (k=9)
noncomputable def doW (W:Wd)(o:WOp):Wd × Int × Int :=
 if o.kind<0∨9<o.kind then(W,0,1)
 else if ofW o.kind=true∧W.has o.a=false then(W,0,4)
 else if o.kind=0 then zBO W o else if o.kind=1 then zEj W o else if o.kind=2 then pskW W o else if o.kind=3 then zEX W o
 else if o.kind=4 then zBC W o else if o.kind=5 then zHd W o else if o.kind=6 then zDb W o else if o.kind=7 then zCK W o
 else if o.kind=8 then zBq W o else zB3 W o
section
open Go.Conc
theorem zWB (a : Nat) (u z : Value) : commResult #[scase a u z] .select ((0 : Nat) : Int) undef false = .tuple #[goInt 0, .bool false] := by
  simp [commResult, scase, List.zipIdx_cons]
theorem zWA (a : Nat) (u z : Value) : commResult #[scase a u z] .select (-1) undef false = .tuple #[goInt (-1), .bool false] := by
  simp [commResult, scase, List.zipIdx_cons]
theorem zWD (a : Nat) (z v : Value) : commResult #[rcase a z] .select ((0 : Nat) : Int) v true = .tuple #[goInt 0, .bool true, v] := by
  simp [commResult, rcase, List.zipIdx_cons]
theorem zWC (a : Nat) (z : Value) : commResult #[rcase a z] .select (-1) undef false = .tuple #[goInt (-1), .bool false, z] := by
  simp [commResult, rcase, List.zipIdx_cons]
set_option maxRecDepth 100000 in
theorem zTO {w : World} {bb c cap s r : Nat} {buf : Array Value} {v : Int} (hcell : w.cell? ⟨bb, 0, none⟩ = some (.chan (some c))) (hc : w.heap[c]? = some (.chan cap buf false s r false)) (hroom : buf.size < cap) :
    Calls Tryz.prog 92 #[.pointer (some ⟨bb, 0, none⟩), .int .i64 v] w fun e w' => e = .returned (.bool true) ∧ w' = w.setChan c cap (buf.push (.int .i64 v)) false (s + 1) r false := by
  refine calls_of_loneTo fun cs => ?_
  have e : Frame.enter Tryz.prog 92 #[.pointer (some ⟨bb, 0, none⟩), .int .i64 v] .normal = (base 92).at ⟨#[.pointer (some ⟨bb, 0, none⟩), .int .i64 v, undef, undef, undef, undef, undef, undef, undef, undef, undef, undef, undef], []⟩ [.code (Tryz.f92.body.getD .skip)] := by
    simp [Frame.enter, Frame.at, Tryz.func92, base, Tryz.f92]
  rw [e]
  refine LoneTo.goes (n := 24) ?_
  simp only [Tryz.f92, Option.getD_some]
  s_c stepG_seq
  s_reg
  s_op
  s_c stepG_region_end
  s_c stepG_seq
  s_c stepG_seq
  s_reg
  s_op
  s_op
  s_op
  s_op
  s_c stepG_region_end
  s_reg
  s_op
  s_c stepG_region_end
  s_c stepG_seq
  s_reg
  s_stop
  refine LoneTo.step (step_lone_sel_send_room (k := 0) (c := c) (v := .int .i64 v) (z := .int .i64 0) (cap := cap) (buf := buf) (s := s) (r := r) (tm := false)
    (stepG_comm (cases := #[scase c (.int .i64 v) (.int .i64 0)]) (blocking := false) (shape := .select) (w' := w) rfl rfl (by decide) (by simp [go_sem, execOp, scase, Act.eval]))
    rfl (fun m c' hm hc' => ?_) hc hroom) ?_
  · rcases m with _ | m
    · exact absurd rfl hm
    · simp at hc'
  rw [Frame.finish_at, zWB]
  walk_nrm
  refine LoneTo.goes (n := 16) ?_
  s_op
  s_op
  s_c stepG_region_end
  s_c stepG_block
  s_cond true
  s_c stepG_seq
  s_reg
  s_op
  s_c stepG_region_end
  s_c stepG_ret'
  s_stop
  exact LoneTo.done ⟨.returned (.bool true), _, rfl, ⟨rfl, rfl⟩, rfl, rfl, rfl, rfl, _, Tryz.func92, by simp [results, Tryz.f92, Frame.at]⟩
set_option maxRecDepth 100000 in
theorem zTP {w : World} {bb c cap s r : Nat} {buf : Array Value} {v : Int} (hcell : w.cell? ⟨bb, 0, none⟩ = some (.chan (some c))) (hc : w.heap[c]? = some (.chan cap buf false s r false)) (hfull : cap ≤ buf.size) :
    Calls Tryz.prog 92 #[.pointer (some ⟨bb, 0, none⟩), .int .i64 v] w fun e w' => e = .returned (.bool false) ∧ w' = w := by
  refine calls_of_loneTo fun cs => ?_
  have e : Frame.enter Tryz.prog 92 #[.pointer (some ⟨bb, 0, none⟩), .int .i64 v] .normal = (base 92).at ⟨#[.pointer (some ⟨bb, 0, none⟩), .int .i64 v, undef, undef, undef, undef, undef, undef, undef, undef, undef, undef, undef], []⟩ [.code (Tryz.f92.body.getD .skip)] := by
    simp [Frame.enter, Frame.at, Tryz.func92, base, Tryz.f92]
  rw [e]
  refine LoneTo.goes (n := 24) ?_
  simp only [Tryz.f92, Option.getD_some]
  s_c stepG_seq
  s_reg
  s_op
  s_c stepG_region_end
  s_c stepG_seq
  s_c stepG_seq
  s_reg
  s_op
  s_op
  s_op
  s_op
  s_c stepG_region_end
  s_reg
  s_op
  s_c stepG_region_end
  s_c stepG_seq
  s_reg
  s_stop
  refine LoneTo.step (step_lone_sel_default
    (stepG_comm (cases := #[scase c (.int .i64 v) (.int .i64 0)]) (blocking := false) (shape := .select) (w' := w) rfl rfl (by decide) (by simp [go_sem, execOp, scase, Act.eval]))
    (fun cc hcc => ?_)) ?_
  · simp only [List.mem_toArray, List.mem_cons, List.not_mem_nil, or_false] at hcc
    subst hcc
    exact noWay_send hc hfull
  rw [Frame.finish_at, zWA]
  walk_nrm
  refine LoneTo.goes (n := 16) ?_
  s_op
  s_op
  s_c stepG_region_end
  s_c stepG_block
  s_cond false
  s_c stepG_seq
  s_reg
  s_op
  s_c stepG_region_end
  s_c stepG_ret'
  s_stop
  exact LoneTo.done ⟨.returned (.bool false), _, rfl, ⟨rfl, rfl⟩, rfl, rfl, rfl, rfl, _, Tryz.func92, by simp [results, Tryz.f92, Frame.at]⟩
set_option maxRecDepth 100000 in
theorem zQv {w : World} {bb c cap s r : Nat} {buf : Array Value} {v : Int} (hcell : w.cell? ⟨bb, 0, none⟩ = some (.chan (some c))) (hc : w.heap[c]? = some (.chan cap buf false s r false)) (hsome : 0 < buf.size) (hv : buf.getD 0 undef = .int .i64 v) :
    Calls Tryz.prog 93 #[.pointer (some ⟨bb, 0, none⟩)] w fun e w' => e = .returned (.tuple #[.int .i64 v, .bool true]) ∧ w' = w.setChan c cap (buf.extract 1 buf.size) false s (r + 1) false := by
  refine calls_of_loneTo fun cs => ?_
  have e : Frame.enter Tryz.prog 93 #[.pointer (some ⟨bb, 0, none⟩)] .normal = (base 93).at ⟨#[.pointer (some ⟨bb, 0, none⟩), undef, undef, undef, undef, undef, undef, undef, undef, undef, undef, undef, undef, undef, undef, undef], []⟩ [.code (Tryz.f93.body.getD .skip)] := by
    simp [Frame.enter, Frame.at, Tryz.func93, base, Tryz.f93]
  rw [e]
  refine LoneTo.goes (n := 24) ?_
  simp only [Tryz.f93, Option.getD_some]
  s_c stepG_seq
  s_reg
  s_op
  s_op
  s_c stepG_region_end
  s_c stepG_seq
  s_reg
  s_op
  s_op
  s_op
  s_op
  s_c stepG_region_end
  s_c stepG_seq
  s_reg
  s_stop
  refine LoneTo.step (step_lone_sel_recv_buf (k := 0) (c := c) (z := .int .i64 0) (cap := cap) (buf := buf) (closed := false) (s := s) (r := r) (tm := false)
    (stepG_comm (cases := #[rcase c (.int .i64 0)]) (blocking := false) (shape := .select) (w' := w) rfl rfl (by decide) (by simp [go_sem, execOp, rcase, Act.eval]))
    rfl (fun m c' hm hc' => ?_) hc hsome) ?_
  · rcases m with _ | m
    · exact absurd rfl hm
    · simp at hc'
  rw [Frame.finish_at, zWD, hv]
  walk_nrm
  refine LoneTo.goes (n := 20) ?_
  s_op
  s_op
  s_c stepG_region_end
  s_c stepG_block
  s_cond true
  s_c stepG_seq
  s_reg
  s_op
  s_op
  s_c stepG_region_end
  s_c stepG_seq
  s_reg
  s_op
  s_op
  s_op
  s_c stepG_region_end
  s_c stepG_ret'
  s_stop
  exact LoneTo.done ⟨.returned (.tuple #[.int .i64 v, .bool true]), _, rfl, ⟨rfl, by simp⟩, rfl, rfl, rfl, rfl, _, Tryz.func93, by simp [results, Tryz.f93, Frame.at]⟩
set_option maxRecDepth 100000 in
theorem zQw {w : World} {bb c cap s r : Nat} (hcell : w.cell? ⟨bb, 0, none⟩ = some (.chan (some c))) (hc : w.heap[c]? = some (.chan cap #[] false s r false)) :
    Calls Tryz.prog 93 #[.pointer (some ⟨bb, 0, none⟩)] w fun e w' => e = .returned (.tuple #[.int .i64 0, .bool false]) ∧ w' = w := by
  refine calls_of_loneTo fun cs => ?_
  have e : Frame.enter Tryz.prog 93 #[.pointer (some ⟨bb, 0, none⟩)] .normal = (base 93).at ⟨#[.pointer (some ⟨bb, 0, none⟩), undef, undef, undef, undef, undef, undef, undef, undef, undef, undef, undef, undef, undef, undef, undef], []⟩ [.code (Tryz.f93.body.getD .skip)] := by
    simp [Frame.enter, Frame.at, Tryz.func93, base, Tryz.f93]
  rw [e]
  refine LoneTo.goes (n := 24) ?_
  simp only [Tryz.f93, Option.getD_some]
  s_c stepG_seq
  s_reg
  s_op
  s_op
  s_c stepG_region_end
  s_c stepG_seq
  s_reg
  s_op
  s_op
  s_op
  s_op
  s_c stepG_region_end
  s_c stepG_seq
  s_reg
  s_stop
  refine LoneTo.step (step_lone_sel_default
    (stepG_comm (cases := #[rcase c (.int .i64 0)]) (blocking := false) (shape := .select) (w' := w) rfl rfl (by decide) (by simp [go_sem, execOp, rcase, Act.eval]))
    (fun cc hcc => ?_)) ?_
  · simp only [List.mem_toArray, List.mem_cons, List.not_mem_nil, or_false] at hcc
    subst hcc
    exact noWay_recv hc
  rw [Frame.finish_at, zWC]
  walk_nrm
  refine LoneTo.goes (n := 20) ?_
  s_op
  s_op
  s_c stepG_region_end
  s_c stepG_block
  s_cond false
  s_c stepG_seq
  s_reg
  s_op
  s_c stepG_region_end
  s_c stepG_seq
  s_reg
  s_op
  s_op
  s_op
  s_c stepG_region_end
  s_c stepG_ret'
  s_stop
  exact LoneTo.done ⟨.returned (.tuple #[.int .i64 0, .bool false]), _, rfl, ⟨rfl, rfl⟩, rfl, rfl, rfl, rfl, _, Tryz.func93, by simp [results, Tryz.f93, Frame.at]⟩
def zDL (bb cap : Nat) (buf : List Int) : HP :=
  HP.ex fun x : Nat × Nat × Nat => HP.star (Row bb [.chan (some x.1)] 248) (Blk x.1 (.chan cap (buf.map (Value.int .i64)).toArray false x.2.1 x.2.2 false))
section
variable {we w : World} {ρ : List (Nat × Obj)} {σ F : List HP} {bb cap c s r : Nat} {buf : List Int}
theorem zL6 (h : St we ρ (zDL bb cap buf :: F) w) : ∃ c s r, St we ρ (Row bb [.chan (some c)] 248 :: Blk c (.chan cap (buf.map (Value.int .i64)).toArray false s r false) :: F) w := by
  obtain ⟨⟨c, s, r⟩, h⟩ := St.ex h
  exact ⟨c, s, r, St.star.1 h⟩
theorem zEn (h : St we ρ (Row bb [.chan (some c)] 248 :: Blk c (.chan cap (buf.map (Value.int .i64)).toArray false s r false) :: F) w) : St we ρ (zDL bb cap buf :: F) w :=
  St.ex_mk (c, s, r) (St.star.2 h)
attribute [irreducible] zDL
theorem zQ1 {o : Obj} {a : Array Value} {q1 q2 : Nat} (h : St we ρ (Row bb [.chan (some c)] 248 :: Blk c o :: F) w) :
    St we ρ (Row bb [.chan (some c)] 248 :: Blk c (.chan cap a false q1 q2 false) :: F) (w.setChan c cap a false q1 q2 false) := by
  have h1 := h.take (A := Blk c o) (.tail .head)
  have hr := h1.lt .head
  have hlt : c < w.heap.size := (Array.getElem?_eq_some_iff.1 hr).1
  have h2 : St we ρ (Blk c (.chan cap a false q1 q2 false) :: Row bb [.chan (some c)] 248 :: F) (w.setChan c cap a false q1 q2 false) :=
    h1.write .head rfl rfl rfl (by simp [World.setChan]) (by simp [World.setChan, hlt]) (fun k hk => by simp [World.setChan, Array.getElem?_setIfInBounds, Ne.symm hk])
  exact h2.take (.tail .head)
theorem zKp {v : Int} (hS : St we ρ (zDL bb cap buf :: F) w) :
    Cl Tryz.prog 92 [.pointer (some ⟨bb, 0, none⟩), .int .i64 v] w fun u w' => u = .bool (decide (buf.length < cap)) ∧ St we ρ (zDL bb cap (if buf.length < cap then buf ++ [v] else buf) :: F) w' := by
  obtain ⟨c, s, r, hS⟩ := zL6 hS
  have hcell : w.cell? ⟨bb, 0, none⟩ = some (.chan (some c)) := zCq (hS.rd (.own .head)) rfl
  have hc := hS.lt (.tail .head)
  by_cases hl : buf.length < cap
  · rw [decide_eq_true hl, if_pos hl]
    have hk := zTO (v := v) hcell hc (by simpa using hl)
    refine ⟨hk.mono fun en w' ⟨h1, h2⟩ => ?_⟩
    subst h1 h2
    have h3 := zQ1 (cap := cap) (a := (buf.map (Value.int .i64)).toArray.push (.int .i64 v)) (q1 := s + 1) (q2 := r) hS
    have e3 : (buf.map (Value.int .i64)).toArray.push (.int .i64 v) = ((buf ++ [v]).map (Value.int .i64)).toArray := by simp
    exact ⟨rfl, zEn (by rw [← e3]; exact h3)⟩
  · rw [decide_eq_false hl, if_neg hl]
    have hk := zTP (v := v) hcell hc (by simp; omega)
    refine ⟨hk.mono fun en w' ⟨h1, h2⟩ => ?_⟩
    subst h1 h2
    exact ⟨rfl, zEn hS⟩
theorem zJJ (hS : St we ρ (zDL bb cap buf :: F) w) :
    Cl Tryz.prog 93 [.pointer (some ⟨bb, 0, none⟩)] w fun u w' => u = .tuple #[.int .i64 (buf.headD 0), .bool (!buf.isEmpty)] ∧ St we ρ (zDL bb cap buf.tail :: F) w' := by
  obtain ⟨c, s, r, hS⟩ := zL6 hS
  have hcell : w.cell? ⟨bb, 0, none⟩ = some (.chan (some c)) := zCq (hS.rd (.own .head)) rfl
  have hc := hS.lt (.tail .head)
  cases buf with
  | nil =>
    have hk := zQw hcell hc
    refine ⟨hk.mono fun en w' ⟨h1, h2⟩ => ?_⟩
    subst h1 h2
    exact ⟨rfl, zEn hS⟩
  | cons v buf =>
    have hk := zQv (v := v) hcell hc (by simp) (by simp)
    refine ⟨hk.mono fun en w' ⟨h1, h2⟩ => ?_⟩
    subst h1 h2
    have h3 := zQ1 (cap := cap) (a := (((v :: buf).map (Value.int .i64)).toArray.extract 1 ((v :: buf).map (Value.int .i64)).toArray.size)) (q1 := s) (q2 := r + 1) hS
    have e3 : (((v :: buf).map (Value.int .i64)).toArray.extract 1 ((v :: buf).map (Value.int .i64)).toArray.size) = (buf.map (Value.int .i64)).toArray := by simp; exact List.take_of_length_le (by simp)
    have e4 : (Row bb [.chan (some c)] 248 :: Blk c (.chan cap (((v :: buf).map (Value.int .i64)).toArray.extract 1 ((v :: buf).map (Value.int .i64)).toArray.size) false s (r + 1) false) :: F) = (Row bb [.chan (some c)] 248 :: Blk c (.chan cap (buf.map (Value.int .i64)).toArray false s (r + 1) false) :: F) := by rw [e3]
    exact ⟨rfl, zEn (e4 ▸ h3)⟩
end
section
variable {P : Program} {n : Nat} {e : Env} {x : Operand} {d : Nat} {ty : TypeId} {pos : String} {aft : Array Edge} {gd : Option (Nat × Bool)} {K : Env → World → Prop} {we w : World} {ρ : List (Nat × Obj)} {σ : List HP}
theorem OP.makeChan {t el : TypeId} {dir : ChanDir} {i : TypeInfo} {m : Nat} (hS : St we ρ σ w) (hx : ev e x = some (.int .i64 (m : Int))) (ht : P.underlying t = some (.chan dir el)) (hi : P.info? el = some i) (hm : m ≤ 1000) (hb : i.bytes ≤ 1000) (hd : Nat.blt d n = true)
    (hk : ∀ c w1, St we ρ (Blk c (.chan m #[] false 0 0 false) :: σ) w1 → K ((d, .chan (some c)) :: e) w1) : OP P n ⟨some d, .makeChan t x, ty, pos, aft, gd⟩ e w K :=
  OP.put (fun a ha => by
    have hmul : i.bytes * m ≤ 1000 * 1000 := Nat.mul_le_mul hb hm
    have h1 := run_makeChan (P := P) (w := w) ht hi .i64 m (by omega) (by have : ((i.bytes * m : Nat) : Int) ≤ 1000 * 1000 := by omega
                                                                          push_cast at this; omega)
    simp only [execOp, ha.ev hx, Sem.run_bind, h1, Result.andThen_ok, Sem.run_pure]) hd (hk _ _ (hS.alloc _))
end
section
variable {we w : World} {ρ : List (Nat × Obj)} {σ F : List HP}
theorem zKq (hS : St we ρ σ w) : Cl Tryz.prog 89 [.int .i64 8] w fun u w' => ∃ bb, u = .pointer (some ⟨bb, 0, none⟩) ∧ St we ρ (zDL bb 8 [] :: σ) w' := by
  obtain ⟨i, hi⟩ : ∃ i, Tryz.prog.info? 3 = some i ∧ i.bytes ≤ 1000 := by
    have h : ((Tryz.prog.info? 3).map fun i => decide (i.bytes ≤ 1000)) = some true := by kernel_rfl
    obtain ⟨i, hi, hb⟩ := Option.map_eq_some_iff.1 h
    exact ⟨i, hi, by simpa using hb⟩
  refine Run.calls1 (n := 9) Tryz.func89 rfl rfl rfl ?_
  repeat' first|(refine Ql ?_ (h := by apply Still.maxI (c := 8); rfl; rfl; rfl))|(refine Ql ?_ (h := by apply Still.minI (c := 8); rfl; rfl; rfl))|(apply RO.op; apply OP.makeChan (m := 8) hS; rfl; rfl; exact hi.1; exact (by omega); exact hi.2; rfl; clear hS; intro c w1 hS)|apply Qs|apply Qr|apply Qn|refine Ql ?_|(refine Qx ?_; clear hS; intro b w1 hS)
  refine Qw Tryz.func89 ?_
  exact ⟨_, rfl, zEn hS.pk⟩
end
end
structure DevH where
 d:Dv
 db:Nat
 pb:Nat
 kb:Nat
structure PtH where
 x:Pt
 sb:Nat
 bb:Nat
 db:Nat
 r:Rep
 at_:Nat
structure Hd where
 p:Nat
 kb:Nat
 stb:Nat
 ds:List DevH
 ps:List PtH
 ms:List (List Int × Value)
 vp:Value
 vm:Value
 ve:Value
def devI (x:DevH):HP:=HP.star (Row x.db (dvL x.d x.pb x.kb) 208) (HP.star (zAC x.pb 8 x.d.peers) (zAC x.kb 8 x.d.psks))
def ptI (p:Nat)(x:PtH):HP:=HP.star (Row x.sb (sesL x.r x.x.s p x.db) 102) (zDL x.bb 8 x.x.box)
def ptyL (x:PtH):List Value:=[pP x.sb,pP x.bb,pI x.at_,pI x.x.dev]
def mgL (m:List Int × Value):List Value:=[m.2]
abbrev wdL (H:Hd)(f:Int):List Value:=[pP H.p,pP H.kb,.int .u64 f,pP H.stb,H.vp,H.vm,H.ve]
abbrev kvD (ds:List DevH):List (Int × Nat):=ds.map fun x=>(x.d.id,x.db)
abbrev zHy (wb:Nat)(H:Hd)(W:Wd)(F:List HP):List HP :=
 Row wb (wdL H W.fresh) 68::zAA H.p zAB W.L::KN H.kb H.p W.heard W.K::zAD H.stb 8 (kvD H.ds)::Each devI H.ds::Vec 79 4 H.vp H.ps.length (H.ps.flatMap ptyL)::Each (ptI H.p) H.ps ::
  Vec 80 1 H.vm H.ms.length (H.ms.flatMap mgL)::Vec 33 13 H.ve W.evs.length (W.evs.flatMap evtL)::F
structure PtOk (ρ:List (Nat × Obj))(H:Hd)(N nm:Nat)(x:PtH):Prop where
 ok:ShOk x.x.s.h
 rep:ShR ρ x.r x.x.s.h
 idx:0≤x.x.s.index∧x.x.s.index≤N
 dev:∃y∈H.ds,y.db=x.db∧y.d.id=x.x.dev
 box:∀n∈x.x.box,0≤n∧n<nm
structure WOk (ρ:List (Nat × Obj))(H:Hd)(N:Nat)(W:Wd):Prop where
 known:∀x,W.K x=true→has W.L x=true
 heard:W.heard.length≤100*N
 allh:zBd W.L W.heard
 devs:H.ds.map (·.d)=W.devs
 nd:(W.devs.map (·.id)).Nodup
 dlen:W.devs.length≤8
 peers:∀d∈W.devs,d.peers.length≤2*N∧d.psks.length≤2*N∧1≤d.secret
 parts:H.ps.map (·.x)=W.parts
 plen:W.parts.length≤64
 ats:∀(i:Nat) (x:PtH),H.ps[i]? = some x→x.at_=i
 pts:∀x∈H.ps,PtOk ρ H N W.msgs.length x
 msgs:H.ms.map (·.1)=W.msgs
 mlen:W.msgs.length≤256
 msl:∀m∈H.ms,Sl ρ intL 1 m.2 m.1
 evs:W.evs.length≤N
 small:N≤500
def WSt (we:World)(ρ0:List (Nat × Obj))(wb N:Nat)(W:Wd)(F:List HP)(w:World):Prop :=
 ∃H ρ,Over we ρ0 ρ∧WOk ρ H N W∧St we ρ (zHy wb H W F) w
theorem zHt:∀(ds:List DevH) (k:Int),(∃i x,ds[i]? = some x∧x.d.id=k∧zAM (kvD ds) k 0=some (i,x.db)∧(ds.map (·.d)).find? (fun d=>decide (d.id=k))=some x.d)∨(zAM (kvD ds) k 0=none∧(ds.map (·.d)).find? (fun d=>decide (d.id=k))=none):=by
 have key:∀(ds:List DevH) (k:Int) (n:Nat),(∃i x,ds[i]? = some x∧x.d.id=k∧zAM (kvD ds) k n=some (n+i,x.db)∧(ds.map (·.d)).find? (fun d=>decide (d.id=k))=some x.d)∨(zAM (kvD ds) k n=none∧(ds.map (·.d)).find? (fun d=>decide (d.id=k))=none):=by
  intro ds k;induction ds with
  | nil=>intro n;exact .inr ⟨rfl,rfl⟩
  | cons x ds ih =>
    intro n;by_cases h:x.d.id=k
    · refine .inl ⟨0,x,rfl,h,?_,?_⟩
      · simp[kvD,zAM,h]
      · simp[h]
    · rcases ih (n+1)with ⟨i,y,h1,h2,h3,h4⟩|⟨h1,h2⟩
      · refine .inl ⟨i+1,y,by simpa using h1,h2,?_,?_⟩
        · have hk:¬k=x.d.id:=fun e=>h e.symm
          simp only[kvD,List.map_cons,zAM,if_neg hk]at h3 ⊢;rw[h3];simp;omega
        · simp[h,h4]
      · refine .inr ⟨?_,?_⟩
        · have hk:¬k=x.d.id:=fun e=>h e.symm
          simp only[kvD,List.map_cons,zAM,if_neg hk]at h1 ⊢;exact h1
        · simp[h,h2]
 intro ds k;simpa using key ds k 0
section
variable {we w:World}{ρ:List (Nat × Obj)}{σ F:List HP}{wb p kb stb:Nat}{f:Int}{vp vm ve:Value}{L:List Nd}
theorem zMl (hS:St we ρ (Row wb [pP p,pP kb,.int .u64 f,pP stb,vp,vm,ve] 68::zAA p zAB L::F) w) :
 Cl Tryz.prog 79 [pP wb] w fun v w'=>v = .tuple #[pI (mk zAB L ⟨1,IntKind.u64.wrap (f+1),0,0,0⟩).2.1,pI (mk zAB L ⟨1,IntKind.u64.wrap (f+1),0,0,0⟩).2.2] ∧
  St we ρ (Row wb [pP p,pP kb,.int .u64 (IntKind.u64.wrap (f+1)),pP stb,vp,vm,ve] 68::zAA p zAB (mk zAB L ⟨1,IntKind.u64.wrap (f+1),0,0,0⟩).1::F) w':=by
 obtain⟨f2,hf2⟩:∃x,IntKind.u64.wrap (f+1)=x:=⟨_,rfl⟩
 rw[hf2];have kM:∀{F w},St we ρ (zAA p zAB L::F) w→_:=fun hS=>zB6 (n:=⟨1,f2,0,0,0⟩) hS
 generalize mk zAB L ⟨1,f2,0,0,0⟩=q at kM;obtain⟨L1,x,e⟩:=q;simp only at kM ⊢;refine Run.calls1 (n:=23) Tryz.func79 rfl rfl rfl ?_;repeat' first|(refine Ql ?_ (h:=by apply Still.add (c:=f2);rfl;rfl;exact hf2))|apply Qs|apply Qr|apply Qn|refine Ql ?_|(refine Qd ?_;clear hS;intro w1 hS)
 refine(Run.regionH_cut (fun _:Unit=>Row wb [pP p,pP kb,.int .u64 f2,pP stb,vp,vm,ve] 68::zAA p zAB L1::F)
  (fun _=>[(2,pI x),(3,pI e)])
  (show St we ρ (zAA p zAB L::Row wb [pP p,pP kb,.int .u64 f2,pP stb,vp,vm,ve] 68::F) _ from hS.pk) (.cons _ (List.Sublist.refl _)) (by rfl) (by rfl) (by rfl) ?_ ?_)
 · clear hS
   intro w1 hS;refine RH.relist (listed':=bm 14 0) (by kernel_rfl) ?_;repeat' first|refine Yt 0 0 ?_|refine Yt 1 1 ?_|refine Yl 3 2 ?_|refine Yl 7 3 ?_|refine Yt 15 4 ?_|refine Yt 31 5 ?_|refine Yl 63 6 ?_|refine Yl 127 7 ?_|refine Yt 255 8 ?_|refine Yt 1023 10 ?_|refine Yt 2047 11 ?_|refine Yt 4095 12 ?_|refine Yt 8191 13 ?_|(refine Ov 80 (kM hS.tk) ?_;clear hS;intro w1 hS;refine Xh ?_)|refine Jo ?_|refine Za 511 9 ?_|(refine Yd 16383 ?_;exact⟨(),Sb,hS.pk⟩)
 clear hS;rintro - w1 hS;refine Qw Tryz.func79 ?_;exact Xp
end
def zRN (L:List Nd)(devs:List Dv)(id:Int):Int × Bool :=
 match devs.find? fun d=>decide (d.id=id)with
 | none=>(0,false)
 | some d=>match find L ⟨2,0,d.secret,0,0⟩with|none=>(0,false)|some i=>(i,true)
theorem zTQ (W:Wd)(id:Int):zRM W id=zRN W.L W.devs id:=rfl
section
variable {we w:World}{ρ:List (Nat × Obj)}{σ F:List HP}{wb:Nat}{f:Int}{H:Hd}{L:List Nd}{ds:List DevH}{id:Int}
theorem zDX {i:Nat}{x:DevH}(hx:ds[i]? = some x)(h:St we ρ (Each devI ds::F) w) :
 St we ρ (Row x.db (dvL x.d x.pb x.kb) 208::zAC x.pb 8 x.d.peers::zAC x.kb 8 x.d.psks::Each devI (ds.eraseIdx i)::F) w:=by
 have h1:=zEw (f:=devI) hx h;have h2:=St.star.1 h1;have h3:St we ρ (HP.star (zAC x.pb 8 x.d.peers) (zAC x.kb 8 x.d.psks)::Row x.db (dvL x.d x.pb x.kb) 208::Each devI (ds.eraseIdx i)::F) w:=h2.take (.tail .head);exact(St.star.1 h3).picks (by focus((repeat(first|apply Picks.all|apply Picks.nil|(refine Picks.cons (by repeat(first|apply Take.head|apply Take.tail)) ?_)|apply Picks.drop));done))
theorem zHs {i:Nat}{d:Dv}{db pb kb:Nat}(hi:i<ds.length)(h:St we ρ (Row db (dvL d pb kb) 208::zAC pb 8 d.peers::zAC kb 8 d.psks::Each devI (ds.eraseIdx i)::F) w) :
 St we ρ (Each devI (ds.set i ⟨d,db,pb,kb⟩)::F) w:=by
 have h1:St we ρ (zAC pb 8 d.peers::zAC kb 8 d.psks::Row db (dvL d pb kb) 208::Each devI (ds.eraseIdx i)::F) w:=h.pk;have h2:=St.star.2 h1;have h3:St we ρ (Row db (dvL d pb kb) 208::HP.star (zAC pb 8 d.peers) (zAC kb 8 d.psks)::Each devI (ds.eraseIdx i)::F) w:=h2.take (.tail .head);exact zIu (f:=devI) (a:=⟨d,db,pb,kb⟩) hi (St.star.2 h3)
theorem zBQ {α:Type}{l:List α}{i:Nat}{x : α}(h:l[i]? = some x):l.set i x=l:=by
 obtain⟨hi,rfl⟩:=List.getElem?_eq_some_iff.1 h;simp
theorem zPV (hS:St we ρ (Row wb (wdL H f) 68::zAA H.p zAB L::zAD H.stb 8 (kvD ds)::Each devI ds::F) w) :
 Cl Tryz.prog 83 [pP wb,pI id] w fun v w'=>v = .tuple #[pI (zRN L (ds.map (·.d)) id).1,.bool (zRN L (ds.map (·.d)) id).2] ∧
  St we ρ (Row wb (wdL H f) 68::zAA H.p zAB L::zAD H.stb 8 (kvD ds)::Each devI ds::F) w':=by
 have kG:∀{F w},St we ρ (zAD H.stb 8 (kvD ds)::F) w→_:=fun hS=>zVn (k:=id) hS
 unfold zRN;rcases zHt ds id with ⟨i,x,h1,h2,h3,h4⟩|⟨h3,h4⟩
 · rw[h3]at kG
   simp only[Option.map_some,Option.getD_some,Option.isSome_some]at kG;rw[h4];simp only;have kF:∀{F w},St we ρ (zAA H.p zAB L::F) w→_:=fun hS=>zVp (n:=⟨2,0,x.d.secret,0,0⟩) rfl hS
   generalize find L ⟨2,0,x.d.secret,0,0⟩=r at kF;have hi:i<ds.length:=(List.getElem?_eq_some_iff.1 h1).1;refine Run.calls2 (n:=29) Tryz.func83 rfl rfl rfl ?_;repeat' first|(refine Qv 77 (kG hS.tk) ?_;clear hS;intro w1 hS)|apply Qs|apply Qr|apply Qn|refine Ql ?_|refine Qf ?_|apply Qk
   have hS2:=zDX h1 (hS.take (A:=Each devI ds) An);clear hS;refine(Run.regionH_cut (fun _:Unit=>Row wb (wdL H f) 68::zAA H.p zAB L::zAD H.stb 8 (kvD ds)::Row x.db (dvL x.d x.pb x.kb) 208::zAC x.pb 8 x.d.peers::zAC x.kb 8 x.d.psks::Each devI (ds.eraseIdx i)::F)
    (fun _=>[(4,pI (r.getD 0:Nat)),(5,.bool r.isSome)])
    (show St we ρ (zAA H.p zAB L::Row wb (wdL H f) 68::zAD H.stb 8 (kvD ds)::Row x.db (dvL x.d x.pb x.kb) 208::zAC x.pb 8 x.d.peers::zAC x.kb 8 x.d.psks::Each devI (ds.eraseIdx i)::F) _ from hS2.pk) (List.Sublist.refl _) (by rfl) (by rfl) (by rfl) ?_ ?_)
   · clear hS2
     intro w1 hS;refine RH.relist (listed':=bm 12 0) (by kernel_rfl) ?_;repeat' first|refine Yt 0 0 ?_|refine Yt 1 1 ?_|refine Yl 3 2 ?_|refine Yl 7 3 ?_|refine Yt 15 4 ?_|refine Yt 63 6 ?_|refine Yt 255 8 ?_|refine Yt 511 9 ?_|refine Yt 1023 10 ?_|refine Yt 2047 11 ?_|(refine Ov 96 (zEh (cs:=[]) (d:=x.d) (pb:=x.pb) (kb:=x.kb) (by exact Rd.any) hS) ?_;clear hS;intro w1 hS;refine Xh ?_)|(refine Ov 42 (kF hS.tk) ?_;clear hS;intro w1 hS;refine Xh ?_)|refine Jo ?_|refine Za 31 5 ?_|refine Za 127 7 ?_|(refine Yd 4095 ?_;exact⟨(),Sb,hS.pk⟩)
   clear hS2;rintro - w1 hS;refine Qw Tryz.func83 ?_;refine⟨?_,?_⟩
   · cases r<;>rfl
   · have h5:=zHs (d:=x.d) (db:=x.db) (pb:=x.pb) (kb:=x.kb) hi (hS.picks (σ':=Row x.db (dvL x.d x.pb x.kb) 208::zAC x.pb 8 x.d.peers::zAC x.kb 8 x.d.psks::Each devI (ds.eraseIdx i)::Row wb (wdL H f) 68::zAA H.p zAB L::zAD H.stb 8 (kvD ds)::F) (by focus((repeat(first|apply Picks.all|apply Picks.nil|(refine Picks.cons (by repeat(first|apply Take.head|apply Take.tail)) ?_)|apply Picks.drop));done)))
     rw[zBQ h1]at h5;exact h5.pk
 · rw[h3]at kG
   simp only[Option.map_none,Option.getD_none,Option.isSome_none]at kG;rw[h4];refine Run.calls2 (n:=29) Tryz.func83 rfl rfl rfl ?_;repeat' first|(refine Qv 77 (kG hS.tk) ?_;clear hS;intro w1 hS)|apply Qs|apply Qr|apply Qn|refine Ql ?_|refine Qt ?_
   refine Qw Tryz.func83 ?_;exact Xp
end
def opV (o:WOp):Value:=.agg (wopL o).toArray
def DsUp (ds:List DevH)(k:Int)(f:Dv→Dv):List DevH:=ds.map fun x=>if x.d.id=k then⟨f x.d,x.db,x.pb,x.kb⟩ else x
theorem zMQ (ds:List DevH)(k:Int)(f:Dv→Dv):(DsUp ds k f).map (·.d)=(ds.map (·.d)).map fun d=>if d.id=k then f d else d:=by
 unfold DsUp;rw[List.map_map,List.map_map];apply List.map_congr_left;intro x hx;simp only[Function.comp];split<;>rfl
theorem zVu {ds:List DevH}{k:Int}{f:Dv→Dv}(hf:∀d,(f d).id=d.id):kvD (DsUp ds k f)=kvD ds:=by
 unfold DsUp;show List.map _ (List.map _ ds)=List.map _ ds;rw[List.map_map];apply List.map_congr_left;intro x hx;simp only[Function.comp];split<;>simp[hf]
theorem zT6 {ds:List DevH}{k:Int}{f:Dv→Dv}(hf:∀d,(f d).id=d.id){db:Nat}{id:Int}(h:∃y∈ds,y.db=db∧y.d.id=id):∃y∈DsUp ds k f,y.db=db∧y.d.id=id:=by
 obtain⟨y,h1,h2,h3⟩:=h;refine⟨_,List.mem_map_of_mem h1,?_,?_⟩
 · split<;>exact h2
 · split
   · exact(hf _).trans h3
   · exact h3
theorem zHr {k:Int}{f:Dv→Dv}:∀{ds:List DevH} {i:Nat} {x:DevH},(ds.map (·.d.id)).Nodup→ds[i]? = some x→x.d.id=k→ds.set i ⟨f x.d,x.db,x.pb,x.kb⟩=DsUp ds k f
 | [],i,x,_,h,_=>by simp at h
 | y::ds,0,x,hn,h,hk=>by
   obtain rfl:y=x:=by simpa using h
   have h1:∀z∈ds,¬z.d.id=k:=by
    intro z hz e;have:=(List.nodup_cons.1 hn).1;have h2:=List.mem_map_of_mem (f:=fun x:DevH=>x.d.id) hz;rw[show z.d.id=y.d.id from e.trans hk.symm]at h2;exact this h2
   have h2:DsUp ds k f=ds:=by
    unfold DsUp;have h3:∀l:List DevH,(∀z∈l,¬z.d.id=k)→l.map (fun x=>if x.d.id=k then(⟨f x.d,x.db,x.pb,x.kb⟩:DevH) else x)=l:=by
     intro l;induction l with
     | nil=>intro _;rfl
     | cons z l ih =>
       intro hz;rw[List.map_cons,if_neg (hz z (by simp)),ih fun y hy=>hz y (by simp[hy])]
    exact h3 ds h1
   show _::ds=(if y.d.id=k then _ else _)::DsUp ds k f;rw[if_pos hk,h2]
 | y::ds,i+1,x,hn,h,hk=>by
   have h0:=List.nodup_cons.1 hn;have hx:ds[i]? = some x:=by simpa using h
   have h1:¬y.d.id=k:=by
    intro e;have hm:x∈ds:=List.mem_of_getElem? hx;have h2:x.d.id∈ds.map (·.d.id):=List.mem_map_of_mem (f:=fun x:DevH=>x.d.id) hm;rw[hk,← e]at h2;exact h0.1 h2
   show y::ds.set i _=(if y.d.id=k then _ else y)::DsUp ds k f;rw[if_neg h1,zHr h0.2 hx hk]
section
variable {we w:World}{ρ:List (Nat × Obj)}{σ F:List HP}{wb:Nat}{f:Int}{H:Hd}{L:List Nd}{ds:List DevH}{id k pub xx:Int}{i:Nat}{x:DevH}
theorem zVy (hx:ds[i]? = some x)(hb:x.d.peers.length≤100000)(hS:St we ρ (Each devI ds::F) w) :
 Cl Tryz.prog 84 [pP x.db,pI k,pI pub] w fun v w'=>v = pI (zDK x.d k pub).2 ∧
  St we ρ (Each devI (ds.set i ⟨{ x.d with peers:=(zDK x.d k pub).1 },x.db,x.pb,x.kb⟩)::F) w' :=
 (zMS hb (zDX hx hS)).mono fun v w' h=>⟨h.1,zHs (d:={ x.d with peers:=(zDK x.d k pub).1 }) (List.getElem?_eq_some_iff.1 hx).1 h.2⟩
theorem zQ6 (hx:ds[i]? = some x)(hb:x.d.psks.length≤100000)(hS:St we ρ (Each devI ds::F) w) :
 Cl Tryz.prog 86 [pP x.db,pI k,pI xx] w fun v w'=>v = pI (zBJ x.d k xx).2 ∧
  St we ρ (Each devI (ds.set i ⟨{ x.d with psks:=(zBJ x.d k xx).1 },x.db,x.pb,x.kb⟩)::F) w' :=
 (zLg hb (zDX hx hS)).mono fun v w' h=>⟨h.1,zHs (d:={ x.d with psks:=(zBJ x.d k xx).1 }) (List.getElem?_eq_some_iff.1 hx).1 h.2⟩
theorem zFH (hx:ds[i]? = some x)(h:St we ρ (Row x.db (dvL x.d x.pb x.kb) 208::zAC x.pb 8 x.d.peers::zAC x.kb 8 x.d.psks::Each devI (ds.eraseIdx i)::F) w):St we ρ (Each devI ds::F) w:=by
 have h1:=zHs (d:=x.d) (List.getElem?_eq_some_iff.1 hx).1 h;rwa [zBQ hx]at h1
theorem zWH (hx:ds[i]? = some x)(hS:St we ρ (Each devI ds::F) w) :
 Cl Tryz.prog 85 [pP x.db,pI k] w fun v w'=>v = .tuple #[pI (getV x.d.peers k),.bool (hasV x.d.peers k)]∧St we ρ (Each devI ds::F) w' :=
 (zDo (zDX hx hS)).mono fun v w' h=>⟨h.1,zFH hx h.2⟩
theorem pskE (hx:ds[i]? = some x)(hS:St we ρ (Each devI ds::F) w) :
 Cl Tryz.prog 97 [pP x.db,pI k] w fun v w'=>v = .tuple #[pI (getV x.d.psks k),.bool (hasV x.d.psks k)]∧St we ρ (Each devI ds::F) w' :=
 (zLp (F:=zAC x.pb 8 x.d.peers::Each devI (ds.eraseIdx i)::F) ((zDX hx hS).picks (by focus((repeat(first|apply Picks.all|apply Picks.nil|(refine Picks.cons (by repeat(first|apply Take.head|apply Take.tail)) ?_)|apply Picks.drop));done)))).mono fun v w' h=>⟨h.1,zFH hx (h.2.pk)⟩
theorem zUs (hx:ds[i]? = some x)(hS:St we ρ (Each devI ds::F) w) :
 Cl Tryz.prog 96 [pP x.db] w fun v w'=>v = pI x.d.secret∧St we ρ (Each devI ds::F) w' :=
 (zEh (cs:=[]) (d:=x.d) (pb:=x.pb) (kb:=x.kb) (by exact Rd.any) (zDX hx hS)).mono fun v w' h=>⟨h.1,zFH hx h.2⟩
end
structure DsTo (ds ds':List DevH)(devs':List Dv):Prop where
 devs:ds'.map (·.d)=devs'
 kv:kvD ds'=kvD ds
 mem:∀{db:Nat} {id:Int},(∃y∈ds,y.db=db∧y.d.id=id)→∃y∈ds',y.db=db∧y.d.id=id
theorem DsTo.refl (ds:List DevH):DsTo ds ds (ds.map (·.d)):=⟨rfl,rfl,fun h=>h⟩
theorem DsTo.up (ds:List DevH){k:Int}{f:Dv→Dv}(hf:∀d,(f d).id=d.id):DsTo ds (DsUp ds k f) ((ds.map (·.d)).map fun d=>if d.id=k then f d else d):=⟨zMQ ..,zVu hf,zT6 hf⟩
section
variable {we w:World}{ρ:List (Nat × Obj)}{σ F:List HP}{wb:Nat}{f:Int}{H:Hd}{L:List Nd}{ds:List DevH}{o:WOp}
theorem zQm {heard:List Int}{K:Int→Bool}{fresh:Int}{parts:List Pt}{msgs:List (List Int)}{evs:List Evt}{W:Wd}(hW:W=⟨L,heard,K,fresh,ds.map (·.d),parts,msgs,evs⟩)
 (hnd:(ds.map (·.d.id)).Nodup) (hpl:∀d∈ds,d.d.peers.length≤1000) (hS:St we ρ (Row wb (wdL H f) 68::zAA H.p zAB L::zAD H.stb 8 (kvD ds)::Each devI ds::F) w) :
 Cl Tryz.prog 45 [pP wb,opV o] w fun v w'=>v = .tuple #[pI (zEj W o).2.1,pI (zEj W o).2.2] ∧
  ∃ds',DsTo ds ds' (zEj W o).1.devs∧St we ρ (Row wb (wdL H f) 68::zAA H.p zAB L::zAD H.stb 8 (kvD ds)::Each devI ds'::F) w':=by
 have kG:∀{F w},St we ρ (zAD H.stb 8 (kvD ds)::F) w→_:=fun hS=>zVn (k:=o.a) hS
 have kP:∀{F w},St we ρ (Row wb (wdL H f) 68::zAA H.p zAB L::zAD H.stb 8 (kvD ds)::Each devI ds::F) w→_:=fun hS=>zPV (id:=o.b) hS
 subst hW;unfold zEj Wd.dev;rw[zTQ];simp only;generalize zRN L (ds.map (·.d)) o.b=pr at kP;obtain⟨key,hs⟩:=pr;rcases zHt ds o.a with ⟨i,x,h1,h2,h3,h4⟩|⟨h3,h4⟩
 · rw[h3]at kG
   simp only[Option.map_some,Option.getD_some,Option.isSome_some]at kG;rw[h4];have kA:∀{F w},St we ρ (Each devI ds::F) w→_:=fun hS=>zVy (k:=o.b) (pub:=key) h1 (by have:=hpl x (List.mem_of_getElem? h1);omega) hS
   rw[zHr (k:=o.a) (f:=fun d=>{ d with peers:=(zDK d o.b key).1 }) hnd h1 h2]at kA;cases hs;all_goals
    simp only[Bool.true_eq_false,if_true,if_false];refine Run.calls2 (n:=38) Tryz.func45 rfl rfl rfl ?_;repeat' first|apply Qs|apply Qr|apply Qn|refine Ql ?_|(refine Qx ?_;clear hS;intro b w1 hS)
    refine(Run.regionH_cut (fun _:Unit=>zAD H.stb 8 (kvD ds)::Row b (wopL o) 57::Row wb (wdL H f) 68::zAA H.p zAB L::Each devI ds::F) (fun _=>[(0,pP wb),(3,pP b),(6,pP x.db),(7,.bool true)]) (show St we ρ (zAD H.stb 8 (kvD ds)::Row b (wopL o) 57::Row wb (wdL H f) 68::zAA H.p zAB L::Each devI ds::F) _ from hS.pk) (List.Sublist.refl _) (by rfl) (by rfl) (by rfl) ?_ ?_)
    · clear hS
      intro w1 hS;refine RH.relist (listed':=bm 12 0) (by kernel_rfl) ?_;repeat' first|refine Yt 0 0 ?_|refine Yt 1 1 ?_|refine Yl 3 2 ?_|refine Yl 7 3 ?_|refine Yl 15 4 ?_|refine Yl 31 5 ?_|refine Yt 127 7 ?_|refine Yt 255 8 ?_|refine Yt 511 9 ?_|refine Yt 1023 10 ?_|refine Yt 2047 11 ?_|(refine Ov 77 (kG hS.tk) ?_;clear hS;intro w1 hS;refine Xh ?_)|refine Jo ?_|refine Za 63 6 ?_|(refine Yd 4095 ?_;exact⟨(),Sb,hS.pk⟩)
    clear hS;rintro - w1 hS;repeat' first|(refine Qv 83 (kP (zUn hS An An An An)) ?_;clear hS;intro w1 hS)|(refine Qv 84 (kA hS.tk) ?_;clear hS;intro w1 hS)|apply Qs|apply Qr|apply Qn|refine Ql ?_|refine Qy ?_|refine Qt ?_|refine Qf ?_|apply Qk
    refine Qw Tryz.func45 ?_
   · exact⟨rfl,ds,DsTo.refl ds,hS.pk⟩
   · exact⟨rfl,_,DsTo.up ds (fun _=>rfl),hS.pk⟩
 · rw[h3]at kG
   simp only[Option.map_none,Option.getD_none,Option.isSome_none]at kG;rw[h4];refine Run.calls2 (n:=38) Tryz.func45 rfl rfl rfl ?_;repeat' first|apply Qs|apply Qr|apply Qn|refine Ql ?_|(refine Qx ?_;clear hS;intro b w1 hS)
   refine(Run.regionH_cut (fun _:Unit=>zAD H.stb 8 (kvD ds)::Row b (wopL o) 57::Row wb (wdL H f) 68::zAA H.p zAB L::Each devI ds::F) (fun _=>[(0,pP wb),(3,pP b),(6,.pointer none),(7,.bool false)]) (show St we ρ (zAD H.stb 8 (kvD ds)::Row b (wopL o) 57::Row wb (wdL H f) 68::zAA H.p zAB L::Each devI ds::F) _ from hS.pk) (List.Sublist.refl _) (by rfl) (by rfl) (by rfl) ?_ ?_)
   · clear hS
     intro w1 hS;refine RH.relist (listed':=bm 12 0) (by kernel_rfl) ?_;repeat' first|refine Yt 0 0 ?_|refine Yt 1 1 ?_|refine Yl 3 2 ?_|refine Yl 7 3 ?_|refine Yl 15 4 ?_|refine Yl 31 5 ?_|refine Yt 127 7 ?_|refine Yt 255 8 ?_|refine Yt 511 9 ?_|refine Yt 1023 10 ?_|refine Yt 2047 11 ?_|(refine Ov 77 (kG hS.tk) ?_;clear hS;intro w1 hS;refine Xh ?_)|refine Jo ?_|refine Za 63 6 ?_|(refine Yd 4095 ?_;exact⟨(),Sb,hS.pk⟩)
   clear hS;rintro - w1 hS;repeat' first|(refine Qv 83 (kP (zUn hS An An An An)) ?_;clear hS;intro w1 hS)|apply Qs|apply Qr|apply Qn|refine Ql ?_|refine Qz ?_|refine Qt ?_
   refine Qw Tryz.func45 ?_;exact⟨rfl,ds,DsTo.refl ds,hS.pk⟩
end
theorem zT7 {ds:List DevH}{k:Int}{f:Dv→Dv}(hf:∀d,(f d).id=d.id):(DsUp ds k f).map (·.d.id)=ds.map (·.d.id):=by
 unfold DsUp;rw[List.map_map];apply List.map_congr_left;intro x hx;simp only[Function.comp];split<;>simp[hf]
theorem zT8 {ds:List DevH}{k:Int}{f:Dv→Dv}(hf:∀d,(f d).id=d.id){j:Nat}{y:DevH}(h:ds[j]? = some y) :
 ∃y',(DsUp ds k f)[j]? = some y'∧y'.db=y.db∧y'.d.id=y.d.id∧(y'.d=y.d∨y'.d=f y.d):=by
 unfold DsUp;rw[List.getElem?_map,h];refine⟨_,rfl,?_⟩;show(if y.d.id=k then(⟨f y.d,y.db,y.pb,y.kb⟩:DevH) else y).db=y.db∧(if y.d.id=k then(⟨f y.d,y.db,y.pb,y.kb⟩:DevH) else y).d.id=y.d.id∧((if y.d.id=k then(⟨f y.d,y.db,y.pb,y.kb⟩:DevH) else y).d=y.d∨(if y.d.id=k then(⟨f y.d,y.db,y.pb,y.kb⟩:DevH) else y).d=f y.d);split
 · exact⟨rfl,hf _,.inr rfl⟩
 · exact⟨rfl,rfl,.inl rfl⟩
theorem DsTo.trans {a b c:List DevH}{x y:List Dv}(h1:DsTo a b x)(h2:DsTo b c y):DsTo a c y:=⟨h2.devs,h2.kv.trans h1.kv,fun h=>h2.mem (h1.mem h)⟩
theorem zEA {d:Dv}{k x:Int}:(zBJ d k x).1.length≤d.psks.length+1:=by
 unfold zBJ;split
 · simp
 · split
   · simp
   · exact zOe _ _ _ _
section
variable {we w:World}{ρ:List (Nat × Obj)}{σ F:List HP}{wb:Nat}{f:Int}{H:Hd}{L:List Nd}{ds:List DevH}{o:WOp}
theorem zIv (we:World)(ρ:List (Nat × Obj))(stb:Nat)(ds:List DevH)(k:Int):∃(ua:Value) (ia:Bool),
 (∀{F w},St we ρ (zAD stb 8 (kvD ds)::F) w→Cl Tryz.prog 77 [pP stb,pI k] w fun v w'=>v = .tuple #[ua,.bool ia]∧St we ρ (zAD stb 8 (kvD ds)::F) w') ∧
 ((ia=false∧ua = .pointer none∧(ds.map (·.d)).find? (fun d=>decide (d.id=k))=none) ∨
   (ia=true∧∃(i:Nat) (x:DevH),ds[i]? = some x∧x.d.id=k∧ua = pP x.db∧(ds.map (·.d)).find? (fun d=>decide (d.id=k))=some x.d)):=by
 have kG:∀{F w},St we ρ (zAD stb 8 (kvD ds)::F) w→_:=fun hS=>zVn (k:=k) hS
 rcases zHt ds k with ⟨i,x,h1,h2,h3,h4⟩|⟨h3,h4⟩
 · rw[h3]at kG
   exact⟨_,_,kG,.inr ⟨rfl,i,x,h1,h2,rfl,h4⟩⟩
 · rw[h3]at kG
   exact⟨_,_,kG,.inl ⟨rfl,rfl,h4⟩⟩
theorem zOJ (hS:St we ρ (Row wb (wdL H f) 68::zAA H.p zAB L::F) w) :
 Cl Tryz.prog 79 [pP wb] w fun v w'=>v = .tuple #[pI (mk zAB L ⟨1,IntKind.u64.wrap (f+1),0,0,0⟩).2.1,pI (mk zAB L ⟨1,IntKind.u64.wrap (f+1),0,0,0⟩).2.2] ∧
  St we ρ (Row wb (wdL H (IntKind.u64.wrap (f+1))) 68::zAA H.p zAB (mk zAB L ⟨1,IntKind.u64.wrap (f+1),0,0,0⟩).1::F) w':=zMl hS
theorem zS3 {heard:List Int}{K:Int→Bool}{parts:List Pt}{msgs:List (List Int)}{evs:List Evt}{W:Wd}(hW:W=⟨L,heard,K,f,ds.map (·.d),parts,msgs,evs⟩)
 (hnd:(ds.map (·.d.id)).Nodup) (hpl:∀d∈ds,d.d.psks.length≤1000) (hS:St we ρ (Row wb (wdL H f) 68::zAA H.p zAB L::zAD H.stb 8 (kvD ds)::Each devI ds::F) w) :
 Cl Tryz.prog 46 [pP wb,opV o] w fun v w'=>v = .tuple #[pI (pskW W o).2.1,pI (pskW W o).2.2] ∧
  ∃ds',DsTo ds ds' (pskW W o).1.devs∧St we ρ (Row wb (wdL H (pskW W o).1.fresh) 68::zAA H.p zAB (pskW W o).1.L::zAD H.stb 8 (kvD ds)::Each devI ds'::F) w':=by
 obtain⟨ua,ia,kG,ha⟩:=zIv we ρ H.stb ds o.a;obtain⟨ub,ib,kG2,hb⟩:=zIv we ρ H.stb ds o.b;have kN:∀{F w},St we ρ (Row wb (wdL H f) 68::zAA H.p zAB L::F) w→_:=fun hS=>zOJ hS
 subst hW;unfold pskW zAw Wd.dev;simp only[zJI];generalize IntKind.u64.wrap (f+1)=f2 at kN;generalize mk zAB L ⟨1,f2,0,0,0⟩=q at kN;obtain⟨L1,xx,e⟩:=q;refine Run.calls2 (n:=80) Tryz.func46 rfl rfl rfl ?_;repeat' first|apply Qs|apply Qr|apply Qn|refine Ql ?_|(refine Qx ?_;clear hS;intro b w1 hS)
 refine(Run.regionH_cut (fun _:Unit=>zAD H.stb 8 (kvD ds)::Row b (wopL o) 57::Row wb (wdL H f) 68::zAA H.p zAB L::Each devI ds::F) (fun _=>[(0,pP wb),(3,pP b),(6,ua),(7,.bool ia)]) (show St we ρ (zAD H.stb 8 (kvD ds)::Row b (wopL o) 57::Row wb (wdL H f) 68::zAA H.p zAB L::Each devI ds::F) _ from hS.pk) (List.Sublist.refl _) (by rfl) (by rfl) (by rfl) ?_ ?_)
 · clear hS
   intro w1 hS;refine RH.relist (listed':=bm 12 0) (by kernel_rfl) ?_;repeat' first|refine Yt 0 0 ?_|refine Yt 1 1 ?_|refine Yl 3 2 ?_|refine Yl 7 3 ?_|refine Yl 15 4 ?_|refine Yl 31 5 ?_|refine Yt 127 7 ?_|refine Yt 255 8 ?_|refine Yt 511 9 ?_|refine Yt 1023 10 ?_|refine Yt 2047 11 ?_|(refine Ov 77 (kG hS.tk) ?_;clear hS;intro w1 hS;refine Xh ?_)|refine Jo ?_|refine Za 63 6 ?_|(refine Yd 4095 ?_;exact⟨(),Sb,hS.pk⟩)
 clear hS kG;rintro - w1 hS;apply Qs;refine(Run.regionH_cut (fun _:Unit=>zAD H.stb 8 (kvD ds)::Row b (wopL o) 57::Row wb (wdL H f) 68::zAA H.p zAB L::Each devI ds::F) (fun _=>[(0,pP wb),(3,pP b),(6,ua),(7,.bool ia),(8,ub),(9,.bool ib)]) hS (List.Sublist.refl _) (by rfl) (by rfl) (by rfl) ?_ ?_)
 · clear hS
   intro w1 hS;refine RH.relist (listed':=bm 12 0) (by kernel_rfl) ?_;repeat' first|refine Yt 0 0 ?_|refine Yt 1 1 ?_|refine Yl 3 2 ?_|refine Yl 7 3 ?_|refine Yl 15 4 ?_|refine Yl 31 5 ?_|refine Yt 127 7 ?_|refine Yt 255 8 ?_|refine Yt 511 9 ?_|refine Yt 1023 10 ?_|refine Yt 2047 11 ?_|(refine Ov 77 (kG2 hS.tk) ?_;clear hS;intro w1 hS;refine Xh ?_)|refine Jo ?_|refine Za 63 6 ?_|(refine Yd 4095 ?_;exact⟨(),Sb,hS.pk⟩)
 clear hS kG2;rintro - w1 hS;rcases ha with ⟨rfl,rfl,ha4⟩|⟨rfl,i,x,ha1,ha2,rfl,ha4⟩
 · rw[ha4]
   repeat' first|apply Qs|apply Qr|apply Qn|refine Ql ?_|refine Qz ?_|refine Qt ?_
   refine Qw Tryz.func46 ?_;exact⟨rfl,ds,DsTo.refl ds,hS.pk⟩
 · rcases hb with ⟨rfl,rfl,hb4⟩|⟨rfl,j,y,hb1,hb2,rfl,hb4⟩
   · rw[ha4,hb4]
     repeat' first|apply Qs|apply Qr|apply Qn|refine Ql ?_|refine Qy ?_|refine Qt ?_
     refine Qw Tryz.func46 ?_;exact⟨rfl,ds,DsTo.refl ds,hS.pk⟩
   · rw[ha4,hb4]
     simp only;have kP1:∀{F w},St we ρ (Each devI ds::F) w→_:=fun hS=>zWH (k:=o.b) ha1 hS
     have kP2:∀{F w},St we ρ (Each devI ds::F) w→_:=fun hS=>zWH (k:=o.a) hb1 hS
     have kS1:∀{F w},St we ρ (Each devI ds::F) w→_:=fun hS=>zQ6 (k:=o.b) (xx:=xx) ha1 (by have:=hpl x (List.mem_of_getElem? ha1);omega) hS
     rw[zHr (k:=o.a) (f:=fun d=>{ d with psks:=(zBJ d o.b xx).1 }) hnd ha1 ha2]at kS1;obtain⟨y',hy1,hy2,hy3,hy4⟩:=zT8 (k:=o.a) (f:=fun d=>{ d with psks:=(zBJ d o.b xx).1 }) (fun _=>rfl) hb1;have kS2:∀{F w},St we ρ (Each devI (DsUp ds o.a (fun d=>{ d with psks:=(zBJ d o.b xx).1 }))::F) w→_:=fun hS=>zQ6 (k:=o.a) (xx:=xx) hy1 (by
      have h0:=hpl y (List.mem_of_getElem? hb1);rcases hy4 with e|e<;>rw[e]
      · omega
      · have:=zEA (d:=y.d) (k:=o.b) (x:=xx)
        simp only;omega) hS
     rw[zHr (k:=o.b) (f:=fun d=>{ d with psks:=(zBJ d o.a xx).1 }) (by rw[zT7 (ds:=ds) (k:=o.a) (f:=fun d=>{ d with psks:=(zBJ d o.b xx).1 }) (fun _=>rfl)];exact hnd) hy1 (hy3.trans hb2),hy2]at kS2;generalize hasV x.d.peers o.b=b1 at kP1;generalize hasV y.d.peers o.a=b2 at kP2;cases b1<;>cases b2;all_goals
      simp only[Bool.and_true,Bool.and_false,Bool.true_eq_false,if_true,if_false];repeat' first|(refine Qv 85 (kP1 hS.tk) ?_;clear hS;intro w1 hS)|(refine Qv 85 (kP2 hS.tk) ?_;clear hS;intro w1 hS)|(refine Qv 79 (kN hS.tk2) ?_;clear hS;intro w1 hS)|(refine Qv 86 (kS1 hS.tk) ?_;clear hS;intro w1 hS)|(refine Qv 86 (kS2 hS.tk) ?_;clear hS;intro w1 hS)|apply Qs|apply Qr|(apply Rs<;>intro hc<;>try exact No)|apply Qn|refine Ql ?_|refine Qy ?_|refine Qz ?_|refine Qt ?_|refine Qf ?_|apply Qk
     all_goals first
      | (have hc:e≠0:=by assumption
         rw[if_pos hc];refine Qw Tryz.func46 ?_;exact⟨rfl,ds,DsTo.refl ds,hS.pk⟩)
      | (have hc:¬e≠0:=by assumption
         rw[if_neg hc];refine Qw Tryz.func46 ?_;have hD:=(DsTo.up ds (k:=o.a) (f:=fun d=>{ d with psks:=(zBJ d o.b xx).1 }) (fun _=>rfl)).trans (DsTo.up _ (k:=o.b) (f:=fun d=>{ d with psks:=(zBJ d o.a xx).1 }) (fun _=>rfl));rw[zMQ]at hD;exact⟨rfl,_,hD,hS.pk⟩)
      | (refine Qw Tryz.func46 ?_
         exact⟨rfl,ds,DsTo.refl ds,hS.pk⟩)
end
end Go.Proofs.YtcikdogkkgefcaaGreatDoor
