/- A pattern with a modifier put on; a name's pattern: base.modified, Named. A name's pattern: base.Named. -/
import Derived.Shelf.Small.Wraps
import Derived.Shelf.Strings.FuncGrows
import Derived.Test.YtcikdogkkgefcaaGreatDoorMA29
namespace Go.Proofs.YtcikdogkkgefcaaGreatDoor
set_option maxRecDepth 8000
set_option maxHeartbeats 16000000
set_option linter.unusedVariables false
set_option linter.unusedSimpArgs false
open Go Go.RowKit
section
variable {P:Program}{n:Nat}{e:Env}{ty t:TypeId}{x y:Operand}{S:World→Prop}
theorem Still.sliceStr {s:ByteArray}{q:IntKind}{i:Int}(hx:ev e x=some (.string s))(hy:ev e y=some (.int q i))(ht:P.underlying t=some .string)(h0:0≤i)(h1:i≤s.size) :
 Still P n e S (.slice t x (some y) none none) ty (.string (s.extract i.toNat s.size)):=Still.mk fun a w ha _ d pos aft g=>by
 simp only[execOp,ha.ev hx,Option.map_some,Option.map_none,ha.ev hy,Instr.sliceAt,Instr.slice,Sem.run_bind,run_underlying ht,Result.andThen_ok,Instr.sliceBounds,Instr.sliceBound,asIntOf,Sem.run_pure];simp[h0,h1]
end
theorem zUf {x:Int}(h1:0≤x)(h2:x≤255):IntKind.u8.wrap x=x:=by
 simp only[IntKind.wrap,IntKind.bits,IntKind.signed];simp;omega
def zMK:ByteArray:=⟨#[102,97,108,108,98,97,99,107]⟩
def pskB:ByteArray:=⟨#[112,115,107]⟩
def zPa:ByteArray:=⟨#[43]⟩
def zEy (s p:ByteArray):ByteArray × Bool:=(⟨(Lib.trimPrefix s.data.toList p.data.toList).toArray⟩,Lib.hasPrefix s.data.toList p.data.toList)
def zGh (s:ByteArray):Nat:=if h:0<s.size then(s[0]'h).toNat else 0
def modV (p:Pat)(s:ByteArray):Pat × Int :=
 if s=zMK then zCe p
 else if(zEy s pskB).2=false∨(zEy s pskB).1.size≠1∨zGh (zEy s pskB).1<48∨57<zGh (zEy s pskB).1 then(.z,4)
 else pskP p ((zGh (zEy s pskB).1:Int) - 48)
def zL1:Pat→List ByteArray→Pat × Int
 | p,[]=>(p,0)
 | p,s::l=>if(modV p s).2≠0 then(.z,(modV p s).2) else zL1 (modV p s).1 l
def upB (x:Nat):Bool:=decide ((x:Int)<65) || decide (90<(x:Int))
def zMF (name:ByteArray):ByteArray:=Lib.trimRightF upB name
def zCu (name:ByteArray):Pat × Int :=
 if(zOB (zMF name)).2≠0∨20<name.size then(.z,4)
 else if name=zMF name then({ (zOB (zMF name)).1 with name:=name },0)
 else zL1 { (zOB (zMF name)).1 with name:=name } (zBD (name.extract (zMF name).size name.size) zPa)
theorem zRR {p:Pat}{n:Int}(h:(pskP p n).2=0):(pskP p n).1.name=p.name:=by
 unfold pskP at h ⊢;split at h
 · exact absurd h (by decide:¬(1:Int)=0)
 · rename_i h1
   rw[if_neg h1];split at h
   · exact absurd h (by decide:¬(13:Int)=0)
   · rename_i h2
     rw[if_neg h2]
theorem zJL {p:Pat}(h:(zCe p).2=0):(zCe p).1.name=p.name:=by
 unfold zCe at h ⊢;split at h
 · exact absurd h (by decide:¬(1:Int)=0)
 · rename_i h1
   rw[if_neg h1];split at h
   · exact absurd h (by decide:¬(13:Int)=0)
   · rename_i h2
     rw[if_neg h2];rfl
theorem zL2 {p:Pat}{s:ByteArray}(h:(modV p s).2=0):(modV p s).1.name=p.name:=by
 unfold modV at h ⊢;split at h
 · rename_i h1
   rw[if_pos h1];exact zJL h
 · rename_i h1
   rw[if_neg h1];split at h
   · exact absurd h (by decide:¬(4:Int)=0)
   · rename_i h2
     rw[if_neg h2];exact zRR h
def zCz (we:World):Prop:=Lib.Utf8Tabs 1 2 we
section
variable {we w:World}{ρ:List (Nat × Obj)}{σ F:List HP}{v:Value}
theorem zF2 {s p:ByteArray}(hS:St we ρ σ w) :
 Cl Tryz.prog 187 [.string s,.string p] w fun v w'=>v = .tuple #[.string (zEy s p).1,.bool (zEy s p).2]∧St we ρ σ w':=by
 refine⟨(Any.strings_CutPrefix zVa s p w).mono fun e w' ⟨h,hw⟩=>?_⟩;subst h hw;exact⟨rfl,hS⟩
theorem zO8 {x:Nat}(hS:St we ρ σ w):Cl Tryz.prog 143 [.int .i32 (x:Int)] w fun v w'=>v = .bool (upB x)∧St we ρ σ w':=by
 unfold upB;refine Run.calls1 (n:=9) Tryz.func143 rfl rfl rfl ?_;repeat' first|apply Qs|apply Qr|(apply Rs<;>intro hc<;>try exact No)|apply Qn|refine Ql ?_|refine Qy ?_|refine Qz ?_
 all_goals
  refine Qw Tryz.func143 ?_;exact⟨by simp_all [tup],hS⟩
theorem zH1 {s:ByteArray}(hT:zCz we)(hs:s.size≤1000)(hS:St we ρ σ w) :
 Cl Tryz.prog 142 [.string s,.func (.func 143) #[] #[]] w fun v w'=>v = .string (zMF s)∧St we ρ σ w':=by
 have hp:PredGrows Tryz.prog 143 #[] upB w:=by
  intro W x hx hb;have h1:=(zO8 (x:=x) (St.start W [] (by simp))).go;refine h1.mono fun en w' hr=>?_
  cases en with
  | returned v =>
    obtain⟨rfl,h2⟩:=(show v = .bool (upB x)∧St W [] [] w' from hr)
    exact⟨rfl,h2.below⟩
  | _=>exact hr.elim
 have hT2:Lib.Utf8Tabs 1 2 w:=⟨fun c hc=>zDz hS (hT.1 c hc),fun i hi=>⟨zDz hS (hT.2 i hi).1,zDz hS (hT.2 i hi).2⟩⟩
 refine⟨(Any.strings_TrimRightFunc_grows zVT 143 #[] (enters_of (Tryz.func143) (by kernel_rfl) rfl) upB s w (by omega) hT2 hp).mono fun e w' ⟨h,hw⟩=>?_⟩;subst h;exact⟨rfl,hS.below_grow hw⟩
theorem zPo {p:Pat}{s:ByteArray}(hs:p.name.size≤100)(hz:s.size≤1000)(hp:PatR ρ v p)(hS:St we ρ σ w) :
 Cl Tryz.prog 145 [v,.string s] w fun v w'=>∃pv ρ',v = .tuple #[pv,pI (modV p s).2]∧Over we ρ ρ'∧PatR ρ' pv (modV p s).1∧St we ρ' σ w':=by
 obtain⟨q0,c0,q1,c1,qm,cm,rfl,-⟩:=hp.shape;have kC:∀{σ:List HP} {w:World},St we ρ σ w→_:=fun hS=>zF2 (s:=s) (p:=pskB) hS
 unfold modV;by_cases hf:s=zMK
 · rw[if_pos hf]
   have kF:∀{σ:List HP} {w:World},St we ρ σ w→_:=fun hS=>zJK hs hp hS
   generalize zCe p=fq at kF;obtain⟨fp,fe⟩:=fq;simp only at kF ⊢;refine Run.calls2 (n:=45) Tryz.func145 rfl rfl rfl ?_;repeat' first|(refine Qc 186 (c:=kF hS) (k':=?_);clear hS;rintro v w1 ⟨pv2,ρ2,rfl,o2,hp2,hS⟩;obtain⟨z0,d0,z1,d1,zm,dm,rfl,-⟩:=hp2.shape)|(apply Rs<;>intro hc<;>try(first|exact absurd hf hc|(exfalso;omega)|exact absurd rfl hc))|apply Qs|apply Qr|apply Qn|refine Ql ?_|(refine Qx ?_;clear hS;intro b w1 hS)|(refine Qa ?_;clear hS;intro b w1 hS)|(refine Qd ?_;clear hS;intro w1 hS)|refine Qt ?_
   refine Qw Tryz.func145 ?_;exact⟨_,ρ2,rfl,o2,hp2,hS.pk⟩
 · rw[if_neg hf]
   obtain⟨cq,hcq⟩:∃x,zEy s pskB=x:=⟨_,rfl⟩
   rw[hcq]at kC ⊢;obtain⟨dg,ok⟩:=cq;simp only at kC ⊢;by_cases hC:ok=false∨dg.size≠1∨zGh dg<48∨57<zGh dg
   · rw[if_pos hC]
     cases ok
     · refine Run.calls2 (n:=45) Tryz.func145 rfl rfl rfl ?_
       repeat' first|(refine Qv 187 (kC hS) ?_;clear hS;intro w1 hS)|(apply Rs<;>intro hc<;>try(first|exact absurd hc hf|(exfalso;omega)|exact absurd rfl hc))|apply Qs|apply Qr|apply Qn|refine Ql ?_|(refine Qx ?_;clear hS;intro b w1 hS)|(refine Qa ?_;clear hS;intro b w1 hS)|(refine Qd ?_;clear hS;intro w1 hS)|refine Qz ?_|refine Qt ?_|refine Qf ?_|apply Qk
       refine Qw Tryz.func145 ?_;exact⟨.agg #[.string ⟨#[]⟩,.slice none 0 0,.slice none 0 0,.slice none 0 0],ρ,rfl,Over.refl _ _,patZ,hS.pk⟩
     · by_cases hd1:dg.size=1
       · have hd0:((0:Int)).toNat<dg.size:=by rw[hd1];decide
         have hb:zGh dg=(dg[(0:Int).toNat]'hd0).toNat:=by unfold zGh;rw[dif_pos (by omega)];rfl
         have hC2:(dg[(0:Int).toNat]'hd0).toNat<48∨57<(dg[(0:Int).toNat]'hd0).toNat:=by
          rw[← hb];rcases hC with h|h|h
          · exact Bool.noConfusion h
          · exact absurd hd1 h
          · exact h
         clear hC;refine Run.calls2 (n:=45) Tryz.func145 rfl rfl rfl ?_;repeat' first|(refine Qv 187 (kC hS) ?_;clear hS;intro w1 hS)|(apply Rs<;>intro hc<;>try(first|exact absurd hc hf|(exfalso;omega)|exact absurd rfl hc))|(refine Ql ?_ (h:=by apply Still.byteAt (s:=dg) (i:=0) (h1:=hd0);rfl;rfl;rfl;omega))|apply Qs|apply Qr|apply Qn|refine Ql ?_|(refine Qx ?_;clear hS;intro b w1 hS)|(refine Qa ?_;clear hS;intro b w1 hS)|(refine Qd ?_;clear hS;intro w1 hS)|refine Qy ?_|refine Qz ?_|refine Qt ?_|refine Qf ?_|apply Qk
         all_goals
          refine Qw Tryz.func145 ?_;exact⟨.agg #[.string ⟨#[]⟩,.slice none 0 0,.slice none 0 0,.slice none 0 0],ρ,rfl,Over.refl _ _,patZ,hS.pk⟩
       · clear hC
         refine Run.calls2 (n:=45) Tryz.func145 rfl rfl rfl ?_;repeat' first|(refine Qv 187 (kC hS) ?_;clear hS;intro w1 hS)|(apply Rs<;>intro hc<;>try(first|exact absurd hc hf|(exfalso;omega)|exact absurd rfl hc))|apply Qs|apply Qr|apply Qn|refine Ql ?_|(refine Qx ?_;clear hS;intro b w1 hS)|(refine Qa ?_;clear hS;intro b w1 hS)|(refine Qd ?_;clear hS;intro w1 hS)|refine Qy ?_|refine Qz ?_|refine Qt ?_|refine Qf ?_|apply Qk
         refine Qw Tryz.func145 ?_;exact⟨.agg #[.string ⟨#[]⟩,.slice none 0 0,.slice none 0 0,.slice none 0 0],ρ,rfl,Over.refl _ _,patZ,hS.pk⟩
   · rw[if_neg hC]
     have hok:ok=true:=by
      cases ok with
      | true=>rfl
      | false=>exact absurd (.inl rfl) hC
     have hd1:dg.size=1:=Decidable.byContradiction fun h=>hC (.inr (.inl h))
     have hd0:((0:Int)).toNat<dg.size:=by rw[hd1];decide
     have hb:zGh dg=(dg[(0:Int).toNat]'hd0).toNat:=by unfold zGh;rw[dif_pos (by omega)];rfl
     have hlo:¬zGh dg<48:=fun h=>hC (.inr (.inr (.inl h)))
     have hhi:¬ 57<zGh dg:=fun h=>hC (.inr (.inr (.inr h)))
     rw[hb]at hlo hhi ⊢;subst hok;have kP:∀{σ:List HP} {w:World},St we ρ σ w→_:=fun hS=>zPY (n:=(((dg[(0:Int).toNat]'hd0).toNat:Nat):Int) - 48) hs (by omega) hp hS
     have hsub:IntKind.u8.wrap ((((dg[(0:Int).toNat]'hd0).toNat:Nat):Int) - 48)=(((dg[(0:Int).toNat]'hd0).toNat:Nat):Int) - 48:=by
      exact zUf (by omega) (by omega)
     have hcv:IntKind.i64.wrap ((((dg[(0:Int).toNat]'hd0).toNat:Nat):Int) - 48)=(((dg[(0:Int).toNat]'hd0).toNat:Nat):Int) - 48:=zA8 (by omega) (by omega);generalize pskP p ((((dg[(0:Int).toNat]'hd0).toNat:Nat):Int) - 48)=pq at kP;obtain⟨pp,pe⟩:=pq;simp only at kP ⊢;refine Run.calls2 (n:=45) Tryz.func145 rfl rfl rfl ?_;repeat' first|(refine Qv 187 (kC hS) ?_;clear hS;intro w1 hS)|(apply Rs<;>intro hc<;>try(first|exact absurd hc hf|(exfalso;omega)|exact absurd rfl hc))|(refine Ql ?_ (h:=by apply Still.byteAt (s:=dg) (i:=0) (h1:=hd0);rfl;rfl;rfl;omega))|apply Qs|apply Qr|apply Qn|refine Ql ?_|(refine Qx ?_;clear hS;intro b w1 hS)|(refine Qa ?_;clear hS;intro b w1 hS)|refine Qy ?_|refine Qf ?_|apply Qk
     rename_i b2 y1 y2 y3 y4 y5;obtain⟨b4,hb4⟩:∃x,x=b:=⟨_,rfl⟩
     subst hb4;refine Run.regionH (fun w=>∃ ρ',St we ρ' (Row b2 [.string p.name,.slice q0 p.pre0.length c0,.slice q1 p.pre1.length c1,.slice qm p.msgs.length cm] 84 :: σ) w)
      (fun e w=>∃z0 d0 z1 d1 zm dm ρ',Over we ρ ρ'∧PatR ρ' (.agg #[.string pp.name,.slice z0 pp.pre0.length d0,.slice z1 pp.pre1.length d1,.slice zm pp.msgs.length dm]) pp∧Sub e [(4,pP b4),(5,pI pe)]∧St we ρ' (Row b4 [.string pp.name,.slice z0 pp.pre0.length d0,.slice z1 pp.pre1.length d1,.slice zm pp.msgs.length dm] 84 :: σ) w)
      (fun e w ⟨z0,d0,z1,d1,zm,dm,ρ2,o2,hp2,h1,hS3⟩=>Run.weaken h1 ?_) (by rfl) (by rfl) (by rfl) ?_
     rotate_left
     · replace hS:=hS.drew
       refine RH.relist (listed':=bm 10 0) (by kernel_rfl) ?_;repeat' first|(apply Rh<;>intro hc<;>try exact No)|(refine Wt 0 0 ?_ (hS:=He) (h:=by apply Still.ex;intro ρx;first|(apply Still.byteAt (s:=dg) (i:=0) (h1:=hd0);rfl;rfl;rfl;omega)|(apply Still.conv;rfl;rfl;rfl;exact hcv)|exact Still.an))|refine Wt 1 1 ?_ (hS:=He) (h:=Ea)|(refine Wt 3 2 ?_ (hS:=He) (h:=by apply Still.ex;intro ρx;first|(apply Still.byteAt (s:=dg) (i:=0) (h1:=hd0);rfl;rfl;rfl;omega)|(apply Still.conv;rfl;rfl;rfl;exact hcv)|exact Still.any))|refine Wt 7 3 ?_ (hS:=He) (h:=Ee)|(refine Wt 15 4 ?_ (hS:=He) (h:=by apply Still.ex;intro ρx;first|(apply Still.byteAt (s:=dg) (i:=0) (h1:=hd0);rfl;rfl;rfl;omega)|(apply Still.conv;rfl;rfl;rfl;exact hcv)|exact Still.any))|refine Wt 63 6 ?_ (hS:=He) (h:=Ea)|refine Wt 127 7 ?_ (hS:=He) (h:=Ea)|refine Wt 511 9 ?_ (hS:=He) (h:=Ea)|(refine Oc 188 (c:=kP hS) (k':=?_);clear hS;rintro v w1 ⟨pv2,ρ2,rfl,o2,hp2,hS⟩;obtain⟨z0,d0,z1,d1,zm,dm,rfl,-⟩:=hp2.shape;refine⟨(by first|exact⟨_,hS⟩|exact⟨_,hS.tail⟩|exact⟨_,hS.sublist (by repeat(first|exact List.Sublist.refl _|refine .cons_cons _ ?_|refine .cons _ ?_))⟩),?_⟩)|(refine Od ?_;clear hS;intro w1 hS;refine⟨(by first|exact⟨_,hS⟩|exact⟨_,hS.tail⟩|exact⟨_,hS.sublist (by repeat(first|exact List.Sublist.refl _|refine .cons_cons _ ?_|refine .cons _ ?_))⟩),?_⟩)|refine Jo ?_|refine Za 31 5 ?_|refine Za 255 8 ?_|(refine Yd 1023 ?_;exact⟨_,_,_,_,_,_,ρ2,o2,hp2,(by exact Sb),hS.pk⟩)
     clear hS;have hS:=hS3;refine Qw Tryz.func145 ?_;exact⟨_,ρ2,rfl,o2,hp2,hS.pk⟩
end
theorem PatR.rename {ρ:List (Nat × Obj)}{a v0 v1 vm:Value}{p:Pat}{nm:ByteArray}(h:PatR ρ (.agg #[a,v0,v1,vm]) p):PatR ρ (.agg #[.string nm,v0,v1,vm]) { p with name:=nm }:=by
 generalize hv:Value.agg #[a,v0,v1,vm]=v at h;obtain⟨h0,h1,hm,hr⟩:=h;simp only[Value.agg.injEq,Array.mk.injEq,List.cons.injEq,and_true]at hv;obtain⟨-,rfl,rfl,rfl⟩:=hv;exact PatR.mk (p:={ p with name:=nm }) h0 h1 hm hr
theorem zP2 (s:ByteArray):(zMF s).size≤s.size:=zDS _ _ _
theorem zJo (p:Pat)(s:ByteArray)(l:List ByteArray):zL1 p (s::l)=if(modV p s).2≠0 then(.z,(modV p s).2) else zL1 (modV p s).1 l:=rfl
section
variable {we w:World}{ρ:List (Nat × Obj)}{σ F:List HP}{v:Value}
theorem zLz {name:ByteArray}(hv:Vars we)(hT:zBf we)(hR:zCz we)(hs:name.size≤1000)(hS:St we ρ σ w) :
 Cl Tryz.prog 87 [.string name] w fun v w'=>∃pv ρ',v = .tuple #[pv,pI (zCu name).2]∧Over we ρ ρ'∧PatR ρ' pv (zCu name).1∧St we ρ' σ w':=by
 have kT:∀{σ:List HP} {w:World},St we ρ σ w→_:=fun hS=>zH1 (s:=name) hR hs hS
 have hhz:=zP2 name;unfold zCu;generalize zMF name=hd at kT hhz;have kB:∀{σ:List HP} {w:World},St we ρ σ w→_:=fun hS=>zQX (name:=hd) hv hT hS
 generalize zOB hd=bq at kB;obtain⟨bp,be⟩:=bq;simp only at kB ⊢;by_cases hC:be≠0∨20<name.size
 · rw[if_pos hC]
   by_cases h1:be=0;all_goals
    refine Run.calls1 (n:=52) Tryz.func87 rfl rfl rfl ?_;repeat' first|(refine Qv 142 (kT hS) ?_;clear hS;intro w1 hS)|(refine Qc 144 (c:=kB hS) (k':=?_);clear hS;rintro v w1 ⟨pv2,ρ2,rfl,o2,hp2,hS⟩;obtain⟨z0,d0,z1,d1,zm,dm,rfl,-⟩:=hp2.shape)|apply Qs|apply Qr|(apply Rs<;>intro hc<;>try exact No)|apply Qn|refine Ql ?_|(refine Qa ?_;clear hS;intro b w1 hS)|(refine Qd ?_;clear hS;intro w1 hS)|refine Qy ?_|refine Qz ?_|refine Qt ?_
    all_goals
     refine Qw Tryz.func87 ?_;exact⟨.agg #[.string ⟨#[]⟩,.slice none 0 0,.slice none 0 0,.slice none 0 0],ρ2,rfl,o2,patZ,hS.pk⟩
 · rw[if_neg hC]
   have h1:be=0:=Decidable.byContradiction fun h=>hC (.inl h)
   have h2:¬ 20<name.size:=fun h=>hC (.inr h)
   subst h1;by_cases hq:name=hd
   · rw[if_pos hq]
     refine Run.calls1 (n:=52) Tryz.func87 rfl rfl rfl ?_;repeat' first|(refine Qv 142 (kT hS) ?_;clear hS;intro w1 hS)|(refine Qc 144 (c:=kB hS) (k':=?_);clear hS;rintro v w1 ⟨pv2,ρ2,rfl,o2,hp2,hS⟩;obtain⟨z0,d0,z1,d1,zm,dm,rfl,-⟩:=hp2.shape)|(apply Rs<;>intro hc<;>try(first|exact absurd hq hc|(exfalso;omega)|exact absurd rfl hc))|apply Qs|apply Qr|apply Qn|refine Ql ?_|(refine Qa ?_;clear hS;intro b w1 hS)|(refine Qd ?_;clear hS;intro w1 hS)|refine Qy ?_|refine Qt ?_|refine Qf ?_|apply Qk
     refine Qw Tryz.func87 ?_;exact⟨_,ρ2,rfl,o2,hp2.rename,hS.pk⟩
   · rw[if_neg hq]
     have hez:(name.extract hd.size name.size).size≤20:=Nat.le_trans (zDS _ _ _) (by omega);have kS:∀{ρ:List (Nat × Obj)} {σ:List HP} {w:World},St we ρ σ w→_:=fun hS=>zB1 (s:=name.extract hd.size name.size) (sep:=zPa) hv (by omega) (by decide) hS
     have hwz:∀y∈zBD (name.extract hd.size name.size) zPa,y.size≤1000:=fun y hy=>Nat.le_trans (zEd _ _ _ y hy) (by omega)
     have hwn:(zBD (name.extract hd.size name.size) zPa).length≤1000:=by
      obtain⟨a,l,e,hl⟩:=zH8 (name.extract hd.size name.size) zPa (by decide);rw[e,List.length_cons];omega
     generalize zBD (name.extract hd.size name.size) zPa=ws at kS hwz hwn;refine Run.calls1 (n:=52) Tryz.func87 rfl rfl rfl ?_;repeat' first|(refine Qv 142 (kT hS) ?_;clear hS;intro w1 hS)|(refine Qc 144 (c:=kB hS) (k':=?_);clear hS;rintro v w1 ⟨pv2,ρ2,rfl,o2,hp2,hS⟩;obtain⟨z0,d0,z1,d1,zm,dm,rfl,-⟩:=hp2.shape)|(apply Rs<;>intro hc<;>try(first|exact absurd hc hq|(exfalso;omega)|exact absurd rfl hc))|(refine Ql ?_ (h:=by apply Still.sliceStr (s:=name) (i:=(hd.size:Int));rfl;rfl;rfl;omega;omega))|(refine Qc 34 (c:=kS hS) (k':=?_);clear hS;rintro v w1 hS;obtain⟨ρ3,o3,s3,hT3⟩:=zAH zBU hS;clear hS;have hS:=hT3;clear hT3;obtain⟨wq,wc,rfl,wk1,wk2,-⟩:=s3.val)|apply Qs|apply Qr|apply Qn|refine Ql ?_|(refine Qa ?_;clear hS;intro b w1 hS)|(refine Qd ?_;clear hS;intro w1 hS)|refine Qy ?_|refine Qf ?_|apply Qk|apply Qb
     rename_i b2 y1 y2 y3 y4 y5 y6 y7 y8;obtain⟨b5,hb5⟩:∃x,x=b:=⟨_,rfl⟩
     subst hb5;have hS2:St we ρ3 (Row b5 [.string name,.slice z0 bp.pre0.length d0,.slice z1 bp.pre1.length d1,.slice zm bp.msgs.length dm] 84::Row b2 [.string ⟨#[]⟩,.slice none 0 0,.slice none 0 0,.slice none 0 0] 84 :: σ) _:=hS.pk;clear hS;have hp3:=(hp2.mono o3.sub).rename (nm:=name);obtain⟨res,hres⟩:∃x,zL1 { bp with name:=name } ws=x:=⟨_,rfl⟩
     rw[hres];refine Run.while (fun x:Nat × Pat × (Value × Value × Value) × List (Nat × Obj)=>[(2,pP b2),(5,pP b5),(34,.slice wq ws.length wc),(35,pI ws.length),(36,pI x.1)])
      (fun x w=>x.1≤ws.length∧zL1 x.2.1 (ws.drop x.1)=res∧x.2.1.name=name∧Over we ρ3 x.2.2.2∧PatR x.2.2.2 (.agg #[.string x.2.1.name,x.2.2.1.1,x.2.2.1.2.1,x.2.2.1.2.2]) x.2.1∧St we x.2.2.2 (Row b5 [.string x.2.1.name,x.2.2.1.1,x.2.2.1.2.1,x.2.2.1.2.2] 84::Row b2 [.string ⟨#[]⟩,.slice none 0 0,.slice none 0 0,.slice none 0 0] 84 :: σ) w) (fun x=>ws.length - x.1)
      (0,{ bp with name:=name },(.slice z0 bp.pre0.length d0,.slice z1 bp.pre1.length d1,.slice zm bp.msgs.length dm),ρ3) ⟨Nat.zero_le _,hres,rfl,Over.refl _ _,hp3,hS2⟩ (by exact Sb) ?_
     clear hS2 hres hp3 hp2;rintro⟨i,pat,⟨v0,v1,vm⟩,ρ4⟩ w ⟨hi,hres,hnm,o4,hp4,hS⟩ ih;simp only at hi hres hnm o4 hp4 hS ih ⊢;obtain⟨u0,k0,u1,k1,um,km,heq,-⟩:=hp4.shape;simp only[Value.agg.injEq,Array.mk.injEq,List.cons.injEq,and_true,true_and]at heq;obtain⟨rfl,rfl,rfl⟩:=heq;by_cases hlt:i<ws.length
     · obtain⟨b0,o0,cs0,e0,f0,hq0,m0,h0⟩:=(s3.mono o4.sub).str hlt
       subst hq0;rw[List.drop_eq_getElem_cons hlt,zJo]at hres;have hyz:=hwz _ (List.getElem_mem hlt);generalize ws[i]=y at h0 hres hyz;replace ih:=fun pat a b c ρ' w h1 h2 h3 h4 h5=>ih (i+1,pat,(a,b,c),ρ') w ⟨by simp only;omega,h1,h2,h3,h4,h5⟩ (by simp only;omega)
       simp only at ih;have kM:∀{σ:List HP} {w:World},St we ρ4 σ w→_:=fun hS=>zPo (s:=y) (by rw[hnm];omega) hyz hp4 hS
       have hmn:=zL2 (p:=pat) (s:=y);generalize modV pat y=mq at kM hres hmn;obtain⟨mp,me⟩:=mq;simp only at kM hres hmn;by_cases hme:me=0
       · subst hme
         rw[if_neg (by simp)]at hres;repeat' first|(refine Ql ?_ (h:=by apply Still.load;rfl;rfl;exact Rd.ro m0;exact h0))|(refine Qc 145 (c:=kM hS) (k':=?_);clear hS;rintro v w1 ⟨pv5,ρ5,rfl,o5,hp5,hS⟩;obtain⟨t0,s0,t1,s1,tm,sm,rfl,-⟩:=hp5.shape)|apply Qs|apply Qr|(apply Rs<;>intro hc<;>try exact No)|apply Qn|refine Ql ?_|(refine Qd ?_;clear hS;intro w1 hS)|refine Qt ?_|refine Qf ?_|apply Qk|apply Qb|apply Qi
         exact Run.weaken (e':=[(2,pP b2),(5,pP b5),(34,.slice (some ⟨b0,o0,none⟩) ws.length wc),(35,pI ws.length),(36,pI ((i+1:Nat):Int))]) (by exact Sb) (ih mp _ _ _ ρ5 _ hres ((hmn rfl).trans hnm) (o4.trans o5) hp5 hS.pk)
       · rw[if_pos hme]at hres
         subst hres;repeat' first|(refine Ql ?_ (h:=by apply Still.load;rfl;rfl;exact Rd.ro m0;exact h0))|(refine Qc 145 (c:=kM hS) (k':=?_);clear hS;rintro v w1 ⟨pv5,ρ5,rfl,o5,hp5,hS⟩;obtain⟨t0,s0,t1,s1,tm,sm,rfl,-⟩:=hp5.shape)|apply Qs|apply Qr|(apply Rs<;>intro hc<;>try exact No)|apply Qn|refine Ql ?_|(refine Qd ?_;clear hS;intro w1 hS)|refine Qt ?_|apply Qk|apply Qb
         refine Qw Tryz.func87 ?_;exact⟨.agg #[.string ⟨#[]⟩,.slice none 0 0,.slice none 0 0,.slice none 0 0],ρ5,rfl,o2.trans (o3.trans (o4.trans o5)),patZ,hS.pk⟩
     · obtain rfl:i=ws.length:=by omega
       rw[List.drop_length]at hres;have hres2:res=(pat,0):=hres.symm;subst hres2;repeat' first|apply Qs|apply Qr|(apply Rs<;>intro hc<;>try exact No)|apply Qn|refine Ql ?_|(refine Qd ?_;clear hS;intro w1 hS)|refine Qf ?_|refine Qe ?_
       refine Qw Tryz.func87 ?_;exact⟨_,ρ4,rfl,o2.trans (o3.trans o4),hp4,hS.pk⟩
end
end Go.Proofs.YtcikdogkkgefcaaGreatDoor
