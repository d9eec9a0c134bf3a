/- A store in memory, keys int and values int: New, Len, Get, Put. A store in memory, keys int and values *device.Device: New, Len, Get, Put. A device's Who, Accept, Add, SetPsk; device.New. -/
import Derived.Test.YtcikdogkkgefcaaGreatDoorMA13
import Derived.Test.YtcikdogkkgefcaaGreatDoorMA12
namespace Go.Proofs.YtcikdogkkgefcaaGreatDoor
set_option maxRecDepth 8000
set_option maxHeartbeats 16000000
set_option linter.unusedVariables false
set_option linter.unusedSimpArgs false
open Go Go.RowKit
abbrev kfII:Int→Value:=fun a=>Value.int .i64 a
abbrev vfII:Int→Value:=fun b=>Value.int .i64 b
abbrev zGi (p:Nat)(lim:Int)(kv:List (Int × Int))(pk:Option Addr)(capk m:Nat)(st:List Nat)(clock:Nat)(F:List HP):List HP :=
 Row p [pI lim,.slice pk kv.length capk,.map (some m)] 283::Vec 3 1 (.slice pk kv.length capk) kv.length (kv.map fun x=>kfII x.1)::Blk m (.map (ents kfII vfII kv st).toArray clock)::F
def zAC (p:Nat)(lim:Int)(kv:List (Int × Int)):HP :=
 HP.ex fun x:Option Addr × Nat × Nat × List Nat × Nat=>HP.pure (zD1 kv∧x.2.2.2.1.length=kv.length)
  (HP.star (Row p [pI lim,.slice x.1 kv.length x.2.1,.map (some x.2.2.1)] 283)
    (HP.star (Vec 3 1 (.slice x.1 kv.length x.2.1) kv.length (kv.map fun x=>kfII x.1)) (Blk x.2.2.1 (.map (ents kfII vfII kv x.2.2.2.1).toArray x.2.2.2.2))))
section
variable {we w:World}{ρ:List (Nat × Obj)}{σ F:List HP}{p:Nat}{lim:Int}{kv:List (Int × Int)}
theorem zOZ (h:St we ρ (zAC p lim kv::F) w):∃pk capk m st clock,zD1 kv∧st.length=kv.length∧St we ρ (zGi p lim kv pk capk m st clock F) w:=by
 obtain⟨⟨pk,capk,m,st,clock⟩,h⟩:=St.ex h;obtain⟨⟨h1,h2⟩,h⟩:=St.pure h;have h:=St.star.1 h;have h6:=St.star.1 (h.take (.tail .head));exact⟨pk,capk,m,st,clock,h1,h2,h6.take (.tail (.tail .head))⟩
theorem zHE {pk:Option Addr}{capk m:Nat}{st:List Nat}{clock:Nat}(h1:zD1 kv)(h2:st.length=kv.length)(h:St we ρ (zGi p lim kv pk capk m st clock F) w):St we ρ (zAC p lim kv::F) w:=by
 refine St.ex_mk (pk,capk,m,st,clock) (St.pure_mk ⟨h1,h2⟩ (St.star.2 ?_));have h5:=(h.take (.tail .head)).take (.tail (.tail .head));have h7:=St.star.2 (h5.take (.tail .head));exact h7.take (.tail .head)
attribute [irreducible] zAC
theorem zWp {limit:Int}(hS:St we ρ σ w) :
 Cl Tryz.prog 135 [pI limit] w fun v w'=>∃p,v = pP p∧St we ρ (zAC p (max limit 0) [] :: σ) w':=by
 have hmax:(if 0>limit then 0 else limit)=max limit 0:=by omega
 refine Run.calls1 (n:=8) Tryz.func135 rfl rfl rfl ?_;repeat' first|(refine Ql ?_ (h:=by apply Still.maxI;rfl;rfl;exact hmax))|apply Qs|apply Qr|apply Qn|refine Ql ?_|(refine Qx ?_;clear hS;intro b w1 hS)|(refine Qp ?_;clear hS;intro b w1 hS)
 refine Qw Tryz.func135 ?_;exact⟨_,rfl,zHE (pk:=none) (capk:=0) (st:=[]) (clock:=0) (by simp[zD1]) rfl ((zAh hS).picks (by focus((repeat(first|apply Picks.all|apply Picks.nil|(refine Picks.cons (by repeat(first|apply Take.head|apply Take.tail)) ?_)|apply Picks.drop));done)))⟩
theorem zWb {k:Int}(hS:St we ρ (zAC p lim kv::F) w) :
 Cl Tryz.prog 140 [pP p,kfII k] w fun v w'=>v = .tuple #[((zAM kv k 0).map fun r=>vfII r.2).getD (Value.int .i64 0),.bool (zAM kv k 0).isSome]∧St we ρ (zAC p lim kv::F) w':=by
 obtain⟨pk,capk,m,st,clock,h1,h2,hS⟩:=zOZ hS;have hm:=zBc (kf:=kfII) (vf:=vfII) (kof:=intK) zAT (k:=k) 0 h2;have hfound:zFk (Value.int .i64 0) ((zAM kv k 0).map fun r=>(r.1,vfII r.2))=(((zAM kv k 0).map fun r=>vfII r.2).getD (Value.int .i64 0),(zAM kv k 0).isSome):=by cases zAM kv k 0<;>rfl
 refine Run.calls2 (n:=19) Tryz.func140 rfl rfl rfl ?_;repeat' first|(refine Ql ?_ (h:=by apply Still.lookupOk;rfl;rfl;rfl;rfl;(exact Rd.any);exact KeyIs.int (f:=intK) rfl (zAS zAT);exact hm;exact hfound))|apply Qs|apply Qr|apply Qn|refine Ql ?_
 refine Qw Tryz.func140 ?_;exact⟨rfl,zHE h1 h2 hS⟩
theorem zWG {k:Int}{u:Int}(hb:kv.length≤100000)(hS:St we ρ (zAC p lim kv::F) w) :
 Cl Tryz.prog 141 [pP p,kfII k,vfII u] w fun v w'=>v = pI (kput lim kv k u).2∧St we ρ (zAC p lim (kput lim kv k u).1::F) w':=by
 obtain⟨pk,capk,m,st,clock,h1,h2,hS⟩:=zOZ hS;have hm:=zBc (kf:=kfII) (vf:=vfII) (kof:=intK) zAT (k:=k) 0 h2;have hkd:=zG1 h1 lim k u;refine Run.calls3 (n:=50) Tryz.func141 rfl rfl rfl ?_;cases hf:zAM kv k 0 with
 | some r =>
   obtain⟨i,b⟩:=r;have hput:=zDT (kf:=kfII) (vf:=vfII) (kof:=intK) zAT (k:=k) (v:=u) (clock:=clock) h2 hf;have hk:kput lim kv k u=(kv.set i (k,u),0):=by simp[kput,hf]
   have hks:=zKv (v:=u) (zCT hf).2;rw[hk]at hkd;rw[hf]at hm;simp only[Option.map_some]at hm;repeat' first|(refine Ql ?_ (h:=by apply Still.lookupOk;rfl;rfl;rfl;rfl;(exact Rd.any);exact KeyIs.int (f:=intK) rfl (zAS zAT);exact hm;rfl))|(refine Run.regionQ_of hS (by rfl) (by kernel_rfl) ?_;clear hS)|(apply RO.op;apply OP.mapUpdate hS;rfl;rfl;rfl;rfl;exact An;exact KeyIs.int (f:=intK) rfl (zAS zAT);exact zCy (zAS zAT);exact hput;clear hS;intro w1 hS)|(refine RQ.nil ?_;(try clear hS);intro w1 hS)|refine RQ.still (by exact Still.any) rfl ?_|refine RQ.no rfl rfl rfl rfl ?_|apply Qs|apply Qr|apply Qn|refine Ql ?_|refine Qf ?_|apply Qk
   refine Qw Tryz.func141 ?_;rw[hk];refine⟨rfl,zHE (pk:=pk) (capk:=capk) (m:=m) (clock:=clock) hkd (by simpa using h2) ?_⟩;have e1:(kv.set i (k,u)).length=kv.length:=by simp
   have e2:((kv.set i (k,u)).map fun x=>kfII x.1)=kv.map fun x=>kfII x.1:=by
    have:=congrArg (List.map kfII) hks;simpa[List.map_map,Function.comp_def]using this
   unfold zGi;rw[e1,e2];exact hS.pk
 | none =>
   have hput:=zDU (kf:=kfII) (vf:=vfII) (kof:=intK) zAT (k:=k) (v:=u) (clock:=clock) h2 hf;rw[hf]at hm;simp only[Option.map_none]at hm;repeat' first
    | (refine Ql ?_ (h:=by apply Still.lookupOk;rfl;rfl;rfl;rfl;(exact Rd.any);exact KeyIs.int (f:=intK) rfl (zAS zAT);exact hm;rfl))
    | (refine Run.regionQ_of hS (by rfl) (by kernel_rfl) ?_;clear hS)
    | (apply RO.op;apply OP.append (size:=1) (bytes:=8) (k:=1) (news:=[kfII k]) hS;rfl;rfl;rfl;rfl;rfl;rfl;rfl;rfl;exact(by omega);exact An;(exact Rd.any);rfl;rfl;exact(by intro v hv;simp at hv;subst hv;rfl);(exact(by unfold maxLen;omega));(exact(by omega));rfl
       clear hS;intro v' w1 hS;obtain⟨pk',capk',rfl⟩:=zAG hS)
    | (apply RO.op;apply OP.mapUpdate hS;rfl;rfl;rfl;rfl;exact An;exact KeyIs.int (f:=intK) rfl (zAS zAT);exact zCy (zAS zAT);exact hput;clear hS;intro w1 hS)
    | (refine RQ.split ?_ ?_<;>intro hc<;>try exact No)
    | (refine RQ.nil ?_;(try clear hS);intro w1 hS)
    | refine RQ.still (by exact Still.any) rfl ?_
    | refine RQ.yes rfl rfl ?_
    | apply Qs
    | apply Qr
    | apply Qn
    | refine Ql ?_
    | (refine Qd ?_;clear hS;intro w1 hS)
    | (refine Qg ?_;clear hS;intro b w1 hS)
    | refine Qt ?_
    | refine Qf ?_
    | apply Qk
   · have hk:kput lim kv k u=(kv,3):=by simp[kput,hf,(by assumption:lim≤kv.length)]
     refine Qw Tryz.func141 ?_;rw[hk];exact⟨rfl,zHE h1 h2 hS.pk⟩
   · have hk:kput lim kv k u=(kv++[(k,u)],0):=by simp[kput,hf,show ¬lim≤kv.length by omega]
     refine Qw Tryz.func141 ?_;rw[hk]at hkd ⊢;refine⟨rfl,zHE (pk:=pk') (capk:=capk') (m:=m) (st:=st++[clock]) (clock:=clock+1) hkd (by simp[h2]) ?_⟩;have e1:(kv++[(k,u)]).length=kv.length+1:=by simp
     unfold zGi;rw[e1,List.map_append];exact hS.pk
end
abbrev kfID:Int→Value:=fun a=>Value.int .i64 a
abbrev vfID:Nat→Value:=fun b=>Value.pointer (some ⟨b,0,none⟩)
abbrev zGj (p:Nat)(lim:Int)(kv:List (Int × Nat))(pk:Option Addr)(capk m:Nat)(st:List Nat)(clock:Nat)(F:List HP):List HP :=
 Row p [pI lim,.slice pk kv.length capk,.map (some m)] 135::Vec 3 1 (.slice pk kv.length capk) kv.length (kv.map fun x=>kfID x.1)::Blk m (.map (ents kfID vfID kv st).toArray clock)::F
def zAD (p:Nat)(lim:Int)(kv:List (Int × Nat)):HP :=
 HP.ex fun x:Option Addr × Nat × Nat × List Nat × Nat=>HP.pure (zD1 kv∧x.2.2.2.1.length=kv.length)
  (HP.star (Row p [pI lim,.slice x.1 kv.length x.2.1,.map (some x.2.2.1)] 135)
    (HP.star (Vec 3 1 (.slice x.1 kv.length x.2.1) kv.length (kv.map fun x=>kfID x.1)) (Blk x.2.2.1 (.map (ents kfID vfID kv x.2.2.2.1).toArray x.2.2.2.2))))
section
variable {we w:World}{ρ:List (Nat × Obj)}{σ F:List HP}{p:Nat}{lim:Int}{kv:List (Int × Nat)}
theorem zOa (h:St we ρ (zAD p lim kv::F) w):∃pk capk m st clock,zD1 kv∧st.length=kv.length∧St we ρ (zGj p lim kv pk capk m st clock F) w:=by
 obtain⟨⟨pk,capk,m,st,clock⟩,h⟩:=St.ex h;obtain⟨⟨h1,h2⟩,h⟩:=St.pure h;have h:=St.star.1 h;have h6:=St.star.1 (h.take (.tail .head));exact⟨pk,capk,m,st,clock,h1,h2,h6.take (.tail (.tail .head))⟩
theorem zHF {pk:Option Addr}{capk m:Nat}{st:List Nat}{clock:Nat}(h1:zD1 kv)(h2:st.length=kv.length)(h:St we ρ (zGj p lim kv pk capk m st clock F) w):St we ρ (zAD p lim kv::F) w:=by
 refine St.ex_mk (pk,capk,m,st,clock) (St.pure_mk ⟨h1,h2⟩ (St.star.2 ?_));have h5:=(h.take (.tail .head)).take (.tail (.tail .head));have h7:=St.star.2 (h5.take (.tail .head));exact h7.take (.tail .head)
attribute [irreducible] zAD
theorem zWq {limit:Int}(hS:St we ρ σ w) :
 Cl Tryz.prog 33 [pI limit] w fun v w'=>∃p,v = pP p∧St we ρ (zAD p (max limit 0) [] :: σ) w':=by
 have hmax:(if 0>limit then 0 else limit)=max limit 0:=by omega
 refine Run.calls1 (n:=8) Tryz.func33 rfl rfl rfl ?_;repeat' first|(refine Ql ?_ (h:=by apply Still.maxI;rfl;rfl;exact hmax))|apply Qs|apply Qr|apply Qn|refine Ql ?_|(refine Qx ?_;clear hS;intro b w1 hS)|(refine Qp ?_;clear hS;intro b w1 hS)
 refine Qw Tryz.func33 ?_;exact⟨_,rfl,zHF (pk:=none) (capk:=0) (st:=[]) (clock:=0) (by simp[zD1]) rfl ((zAh hS).picks (by focus((repeat(first|apply Picks.all|apply Picks.nil|(refine Picks.cons (by repeat(first|apply Take.head|apply Take.tail)) ?_)|apply Picks.drop));done)))⟩
theorem zWR (hS:St we ρ (zAD p lim kv::F) w) :
 Cl Tryz.prog 24 [pP p] w fun v w'=>v = pI kv.length∧St we ρ (zAD p lim kv::F) w':=by
 obtain⟨pk,capk,m,st,clock,h1,h2,hS⟩:=zOa hS;refine Run.calls1 (n:=8) Tryz.func24 rfl rfl rfl ?_;repeat' first|apply Qs|apply Qr|apply Qn|refine Ql ?_
 refine Qw Tryz.func24 ?_;exact⟨rfl,zHF h1 h2 hS⟩
theorem zVn {k:Int}(hS:St we ρ (zAD p lim kv::F) w) :
 Cl Tryz.prog 77 [pP p,kfID k] w fun v w'=>v = .tuple #[((zAM kv k 0).map fun r=>vfID r.2).getD (Value.pointer none),.bool (zAM kv k 0).isSome]∧St we ρ (zAD p lim kv::F) w':=by
 obtain⟨pk,capk,m,st,clock,h1,h2,hS⟩:=zOa hS;have hm:=zBc (kf:=kfID) (vf:=vfID) (kof:=intK) zAT (k:=k) 0 h2;have hfound:zFk (Value.pointer none) ((zAM kv k 0).map fun r=>(r.1,vfID r.2))=(((zAM kv k 0).map fun r=>vfID r.2).getD (Value.pointer none),(zAM kv k 0).isSome):=by cases zAM kv k 0<;>rfl
 refine Run.calls2 (n:=19) Tryz.func77 rfl rfl rfl ?_;repeat' first|(refine Ql ?_ (h:=by apply Still.lookupOk;rfl;rfl;rfl;rfl;(exact Rd.any);exact KeyIs.int (f:=intK) rfl (zAS zAT);exact hm;exact hfound))|apply Qs|apply Qr|apply Qn|refine Ql ?_
 refine Qw Tryz.func77 ?_;exact⟨rfl,zHF h1 h2 hS⟩
theorem zWm {k:Int}{u:Nat}(hb:kv.length≤100000)(hS:St we ρ (zAD p lim kv::F) w) :
 Cl Tryz.prog 137 [pP p,kfID k,vfID u] w fun v w'=>v = pI (kput lim kv k u).2∧St we ρ (zAD p lim (kput lim kv k u).1::F) w':=by
 obtain⟨pk,capk,m,st,clock,h1,h2,hS⟩:=zOa hS;have hm:=zBc (kf:=kfID) (vf:=vfID) (kof:=intK) zAT (k:=k) 0 h2;have hkd:=zG1 h1 lim k u;refine Run.calls3 (n:=50) Tryz.func137 rfl rfl rfl ?_;cases hf:zAM kv k 0 with
 | some r =>
   obtain⟨i,b⟩:=r;have hput:=zDT (kf:=kfID) (vf:=vfID) (kof:=intK) zAT (k:=k) (v:=u) (clock:=clock) h2 hf;have hk:kput lim kv k u=(kv.set i (k,u),0):=by simp[kput,hf]
   have hks:=zKv (v:=u) (zCT hf).2;rw[hk]at hkd;rw[hf]at hm;simp only[Option.map_some]at hm;repeat' first|(refine Ql ?_ (h:=by apply Still.lookupOk;rfl;rfl;rfl;rfl;(exact Rd.any);exact KeyIs.int (f:=intK) rfl (zAS zAT);exact hm;rfl))|(refine Run.regionQ_of hS (by rfl) (by kernel_rfl) ?_;clear hS)|(apply RO.op;apply OP.mapUpdate hS;rfl;rfl;rfl;rfl;exact An;exact KeyIs.int (f:=intK) rfl (zAS zAT);exact zCy (zAS zAT);exact hput;clear hS;intro w1 hS)|(refine RQ.nil ?_;(try clear hS);intro w1 hS)|refine RQ.still (by exact Still.any) rfl ?_|refine RQ.no rfl rfl rfl rfl ?_|apply Qs|apply Qr|apply Qn|refine Ql ?_|refine Qf ?_|apply Qk
   refine Qw Tryz.func137 ?_;rw[hk];refine⟨rfl,zHF (pk:=pk) (capk:=capk) (m:=m) (clock:=clock) hkd (by simpa using h2) ?_⟩;have e1:(kv.set i (k,u)).length=kv.length:=by simp
   have e2:((kv.set i (k,u)).map fun x=>kfID x.1)=kv.map fun x=>kfID x.1:=by
    have:=congrArg (List.map kfID) hks;simpa[List.map_map,Function.comp_def]using this
   unfold zGj;rw[e1,e2];exact hS.pk
 | none =>
   have hput:=zDU (kf:=kfID) (vf:=vfID) (kof:=intK) zAT (k:=k) (v:=u) (clock:=clock) h2 hf;rw[hf]at hm;simp only[Option.map_none]at hm;repeat' first
    | (refine Ql ?_ (h:=by apply Still.lookupOk;rfl;rfl;rfl;rfl;(exact Rd.any);exact KeyIs.int (f:=intK) rfl (zAS zAT);exact hm;rfl))
    | (refine Run.regionQ_of hS (by rfl) (by kernel_rfl) ?_;clear hS)
    | (apply RO.op;apply OP.append (size:=1) (bytes:=8) (k:=1) (news:=[kfID k]) hS;rfl;rfl;rfl;rfl;rfl;rfl;rfl;rfl;exact(by omega);exact An;(exact Rd.any);rfl;rfl;exact(by intro v hv;simp at hv;subst hv;rfl);(exact(by unfold maxLen;omega));(exact(by omega));rfl
       clear hS;intro v' w1 hS;obtain⟨pk',capk',rfl⟩:=zAG hS)
    | (apply RO.op;apply OP.mapUpdate hS;rfl;rfl;rfl;rfl;exact An;exact KeyIs.int (f:=intK) rfl (zAS zAT);exact zCy (zAS zAT);exact hput;clear hS;intro w1 hS)
    | (refine RQ.split ?_ ?_<;>intro hc<;>try exact No)
    | (refine RQ.nil ?_;(try clear hS);intro w1 hS)
    | refine RQ.still (by exact Still.any) rfl ?_
    | refine RQ.yes rfl rfl ?_
    | apply Qs
    | apply Qr
    | apply Qn
    | refine Ql ?_
    | (refine Qd ?_;clear hS;intro w1 hS)
    | (refine Qg ?_;clear hS;intro b w1 hS)
    | refine Qt ?_
    | refine Qf ?_
    | apply Qk
   · have hk:kput lim kv k u=(kv,3):=by simp[kput,hf,(by assumption:lim≤kv.length)]
     refine Qw Tryz.func137 ?_;rw[hk];exact⟨rfl,zHF h1 h2 hS.pk⟩
   · have hk:kput lim kv k u=(kv++[(k,u)],0):=by simp[kput,hf,show ¬lim≤kv.length by omega]
     refine Qw Tryz.func137 ?_;rw[hk]at hkd ⊢;refine⟨rfl,zHF (pk:=pk') (capk:=capk') (m:=m) (st:=st++[clock]) (clock:=clock+1) hkd (by simp[h2]) ?_⟩;have e1:(kv++[(k,u)]).length=kv.length+1:=by simp
     unfold zGj;rw[e1,List.map_append];exact hS.pk
end
section
variable {we w:World}{ρ:List (Nat × Obj)}{σ F:List HP}{p:Nat}{lim:Int}{kv:List (Int × Int)}
theorem zW4 {k u:Int}(hb:kv.length≤100000)(hS:St we ρ (zAC p lim kv::F) w) :
 Cl Tryz.prog 139 [pP p,pI k,pI u] w fun v w'=>v = pI (kadd lim kv k u).2∧St we ρ (zAC p lim (kadd lim kv k u).1::F) w':=by
 obtain⟨pk,capk,m,st,clock,h1,h2,hS⟩:=zOZ hS;have hm:=zBc (kf:=kfII) (vf:=vfII) (kof:=intK) zAT (k:=k) 0 h2;cases hf:zAM kv k 0 with
 | some r =>
   have hk:kadd lim kv k u=(kv,4):=by simp[kadd,hf]
   rw[hk];rw[hf]at hm;simp only[Option.map_some]at hm;refine Run.calls3 (n:=23) Tryz.func139 rfl rfl rfl ?_;repeat' first|(refine Ql ?_ (h:=by apply Still.lookupOk;rfl;rfl;rfl;rfl;(exact Rd.any);exact KeyIs.int (f:=intK) rfl (zAS zAT);exact hm;rfl))|apply Qs|apply Qr|apply Qn|refine Ql ?_|refine Qt ?_
   refine Qw Tryz.func139 ?_;exact⟨rfl,zHE h1 h2 hS.pk⟩
 | none =>
   have hk:kadd lim kv k u=kput lim kv k u:=by simp[kadd,hf]
   rw[hk];rw[hf]at hm;simp only[Option.map_none]at hm;refine Run.calls3 (n:=23) Tryz.func139 rfl rfl rfl ?_;repeat' first|(refine Qv 141 (zWG (k:=k) (u:=u) hb (zHE h1 h2 hS.pk)) ?_;clear hS;intro w1 hS)|(refine Ql ?_ (h:=by apply Still.lookupOk;rfl;rfl;rfl;rfl;(exact Rd.any);exact KeyIs.int (f:=intK) rfl (zAS zAT);exact hm;rfl))|apply Qs|apply Qr|apply Qn|refine Ql ?_|refine Qf ?_|apply Qk
   refine Qw Tryz.func139 ?_;exact⟨rfl,hS⟩
theorem zW5 {k:Int}{u:Nat}{kv:List (Int × Nat)}(hb:kv.length≤100000)(hS:St we ρ (zAD p lim kv::F) w) :
 Cl Tryz.prog 81 [pP p,pI k,pP u] w fun v w'=>v = pI (kadd lim kv k u).2∧St we ρ (zAD p lim (kadd lim kv k u).1::F) w':=by
 obtain⟨pk,capk,m,st,clock,h1,h2,hS⟩:=zOa hS;have hm:=zBc (kf:=kfID) (vf:=vfID) (kof:=intK) zAT (k:=k) 0 h2;cases hf:zAM kv k 0 with
 | some r =>
   have hk:kadd lim kv k u=(kv,4):=by simp[kadd,hf]
   rw[hk];rw[hf]at hm;simp only[Option.map_some]at hm;refine Run.calls3 (n:=23) Tryz.func81 rfl rfl rfl ?_;repeat' first|(refine Ql ?_ (h:=by apply Still.lookupOk;rfl;rfl;rfl;rfl;(exact Rd.any);exact KeyIs.int (f:=intK) rfl (zAS zAT);exact hm;rfl))|apply Qs|apply Qr|apply Qn|refine Ql ?_|refine Qt ?_
   refine Qw Tryz.func81 ?_;exact⟨rfl,zHF h1 h2 hS.pk⟩
 | none =>
   have hk:kadd lim kv k u=kput lim kv k u:=by simp[kadd,hf]
   rw[hk];rw[hf]at hm;simp only[Option.map_none]at hm;refine Run.calls3 (n:=23) Tryz.func81 rfl rfl rfl ?_;repeat' first|(refine Qv 137 (zWm (k:=k) (u:=u) hb (zHF h1 h2 hS.pk)) ?_;clear hS;intro w1 hS)|(refine Ql ?_ (h:=by apply Still.lookupOk;rfl;rfl;rfl;rfl;(exact Rd.any);exact KeyIs.int (f:=intK) rfl (zAS zAT);exact hm;rfl))|apply Qs|apply Qr|apply Qn|refine Ql ?_|refine Qf ?_|apply Qk
   refine Qw Tryz.func81 ?_;exact⟨rfl,hS⟩
theorem zTk:∀u∈kv.map (fun x=>kfII x.1),one u=true:=by
 intro u hu;obtain⟨x,_,rfl⟩:=List.mem_map.1 hu;rfl
theorem zJ8 {v:Value}{n:Nat}{xs:List Value}(hn:n≤100000)(h1:∀u∈xs,one u=true)(ht:Take (Vec 3 1 v n xs) σ F)(hS:St we ρ σ w) :
 Cl Tryz.prog 95 [v] w fun u w'=>St we ρ (Vec 3 1 u n xs :: σ) w':=by
 have hS1:=hS.take ht;obtain⟨hl,⟨rfl,rfl,rfl,-⟩|⟨g,cap,spare,rfl,k1,k2,k3,hS2⟩⟩:=zBP hS1
 · clear hS1
   refine Run.calls1 (n:=8) Tryz.func95 rfl rfl rfl ?_;repeat' first|apply Qs|apply Qr|apply Qn|refine Ql ?_|refine Qt ?_
   refine Qw Tryz.func95 ?_;exact zAh hS
 · clear hS1
   refine Run.calls1 (n:=8) Tryz.func95 rfl rfl rfl ?_;clear hS;have hS:=hS2;clear hS2;repeat' first|(apply RO.op;apply OP.append (size:=1) (bytes:=8) (k:=n) (news:=xs) (zBF (size:=1) (xs:=[]) (l:=[]) (cap:=0) hS (Nat.le_refl _) (Nat.zero_le _) rfl rfl);rfl;rfl;rfl;rfl;rfl;rfl;rfl;rfl;exact(by omega);exact .head;exact(.own .head);(exact(by rw[List.drop_zero,← hl];exact List.take_left));(exact hl);exact h1;(exact(by unfold maxLen;omega));(exact(by omega));rfl;clear hS;intro v' w1 hS)|apply Qs|apply Qr|apply Qn|refine Ql ?_|(refine Qg ?_;clear hS;intro b w1 hS)|refine Qf ?_|apply Qk
   refine Qw Tryz.func95 ?_;rw[Nat.zero_add,List.nil_append]at hS;have hS3:=(zBF (m:=n) (xs:=xs) (hS.take (.tail .head)) k1 k2 (by rw[List.length_append,hl,k3,← Nat.add_mul,Nat.add_sub_cancel' k1]) (by rw[← hl];exact List.take_left))
   show St we ρ (Vec 3 1 v' n xs :: σ) w1;exact hS3.untake (.tail ht)
theorem zWV (hb:kv.length≤100000)(hS:St we ρ (zAC p lim kv::F) w) :
 Cl Tryz.prog 158 [pP p] w fun v w'=>St we ρ (Vec 3 1 v kv.length (kv.map fun x=>kfII x.1)::zAC p lim kv::F) w':=by
 obtain⟨pk,capk,m,st,clock,h1,h2,hS⟩:=zOZ hS;refine Run.calls1 (n:=8) Tryz.func158 rfl rfl rfl ?_;repeat' first|(refine Qc 95 (c:=zJ8 hb zTk An hS) (k':=?_);clear hS;intro v w1 hS)|apply Qs|apply Qr|apply Qn|refine Ql ?_
 refine Qw Tryz.func158 ?_;exact(zHE (pk:=pk) (capk:=capk) (m:=m) (st:=st) (clock:=clock) h1 h2 hS.pk).take (.tail .head)
end
structure Dv where
 id:Int
 secret:Int
 policy:Int
 peers:List (Int × Int)
 psks:List (Int × Int)
def getV (kv:List (Int × Int))(k:Int):Int:=((zAM kv k 0).map (·.2)).getD 0
def hasV (kv:List (Int × Int))(k:Int):Bool:=(zAM kv k 0).isSome
def whoV (kv:List (Int × Int))(pub:Int):Int × Bool :=
 let k:=zAQ (fun id=>decide (getV kv id=pub)) (kv.map (·.1)) 0
 if k<0 then(0,false) else((kv.map (·.1)).getD k.toNat 0,true)
def zDj (d:Dv)(pub:Int):Int × Int :=
 if d.policy=0∨(d.policy=1∧(whoV d.peers pub).2=false)then(0,11) else if(whoV d.peers pub).2=false then(-1,0) else((whoV d.peers pub).1,0)
abbrev dvL (d:Dv)(pb kb:Nat):List Value:=[pI d.id,pI d.secret,pI d.policy,pP pb,pP kb]
theorem zOq (kv:List (Int × Int))(k:Int):((zAM kv k 0).map fun r=>vfII r.2).getD (Value.int .i64 0) = pI (getV kv k):=by
 unfold getV;cases zAM kv k 0<;>rfl
section
variable {we w:World}{ρ:List (Nat × Obj)}{σ F:List HP}{db pb kb:Nat}{d:Dv}{k pub:Int}
theorem zEh {cs:List Value}{el:TypeId}{fr:Nat × Nat}(hr:Rd ρ σ db (.cells (dvL d pb kb).toArray el fr))(hS:St we ρ σ w) :
 Cl Tryz.prog 96 [pP db] w fun v w'=>v = pI d.secret∧St we ρ σ w':=by
 refine Run.calls1 (n:=7) Tryz.func96 rfl rfl rfl ?_;repeat' first|(refine Ql ?_ (h:=by apply Still.load;rfl;rfl;exact hr;rfl))|apply Qs|apply Qr|apply Qn|refine Ql ?_
 refine Qw Tryz.func96 ?_;exact⟨rfl,hS⟩
theorem zDo (hS:St we ρ (Row db (dvL d pb kb) 208::zAC pb 8 d.peers::F) w) :
 Cl Tryz.prog 85 [pP db,pI k] w fun v w'=>v = .tuple #[pI (getV d.peers k),.bool (hasV d.peers k)]∧St we ρ (Row db (dvL d pb kb) 208::zAC pb 8 d.peers::F) w':=by
 have k1:∀{F w},St we ρ (zAC pb 8 d.peers::F) w→_:=fun hS=>zWb (k:=k) hS
 simp only[zOq]at k1;refine Run.calls2 (n:=14) Tryz.func85 rfl rfl rfl ?_;repeat' first|(refine Qv 140 (k1 hS.tk) ?_;clear hS;intro w1 hS)|apply Qs|apply Qr|apply Qn|refine Ql ?_
 refine Qw Tryz.func85 ?_;exact Xp
theorem zLp (hS:St we ρ (Row db (dvL d pb kb) 208::zAC kb 8 d.psks::F) w) :
 Cl Tryz.prog 97 [pP db,pI k] w fun v w'=>v = .tuple #[pI (getV d.psks k),.bool (hasV d.psks k)]∧St we ρ (Row db (dvL d pb kb) 208::zAC kb 8 d.psks::F) w':=by
 have k1:∀{F w},St we ρ (zAC kb 8 d.psks::F) w→_:=fun hS=>zWb (k:=k) hS
 simp only[zOq]at k1;refine Run.calls2 (n:=14) Tryz.func97 rfl rfl rfl ?_;repeat' first|(refine Qv 140 (k1 hS.tk) ?_;clear hS;intro w1 hS)|apply Qs|apply Qr|apply Qn|refine Ql ?_
 refine Qw Tryz.func97 ?_;exact Xp
theorem zMm {b2 b3:Nat}{x:Int}(hS:St we ρ (Row b2 [pP db] 76::Row b3 [pI pub] 3::Row db (dvL d pb kb) 208::zAC pb 8 d.peers::F) w) :
 Cl Tryz.prog 159 [pI x,pP b2,pP b3] w fun v w'=>v = .bool (decide (getV d.peers x=pub))∧St we ρ (Row b2 [pP db] 76::Row b3 [pI pub] 3::Row db (dvL d pb kb) 208::zAC pb 8 d.peers::F) w':=by
 refine Run.calls3 (n:=16) Tryz.func159 rfl rfl rfl ?_;repeat' first|(refine Qv 85 (zDo (d:=d) (kb:=kb) hS.tk2) ?_;clear hS;intro w1 hS)|apply Qs|apply Qr|(apply Rs<;>intro hc<;>try exact No)|apply Qn|refine Ql ?_
 all_goals
  have hd:=hc;refine Qw Tryz.func159 ?_;exact⟨by simp[hd,tup],hS.pk⟩
end
theorem zR1 (kv:List (Int × Int)):kv.map (fun x=>kfII x.1)=(kv.map (·.1)).flatMap intL:=by
 induction kv with
 | nil=>rfl
 | cons x l ih=>rw[List.map_cons,List.map_cons,List.flatMap_cons,ih];rfl
theorem zG6 {α:Type}{p : α→Bool}:∀{l:List α} {i:Int},0≤i→0≤zAQ p l i→∃j:Nat,zAQ p l i=i+j∧j<l.length
 | [],i,_,h=>by simp[zAQ]at h
 | x::l,i,hi,h=>by
   simp only[zAQ]at h ⊢;split
   · exact⟨0,by simp,by simp⟩
   · rename_i hp
     rw[if_neg hp]at h;obtain⟨j,e1,e2⟩:=zG6 (by omega) h;exact⟨j+1,by omega,by simpa using e2⟩
section
variable {we w:World}{ρ:List (Nat × Obj)}{σ F:List HP}{db pb kb:Nat}{d:Dv}{k pub:Int}
theorem zLG (hb:d.peers.length≤100000)(hS:St we ρ (Row db (dvL d pb kb) 208::zAC pb 8 d.peers::F) w) :
 Cl Tryz.prog 106 [pP db,pI pub] w fun v w'=>v = .tuple #[pI (whoV d.peers pub).1,.bool (whoV d.peers pub).2]∧St we ρ (Row db (dvL d pb kb) 208::zAC pb 8 d.peers::F) w':=by
 have k1:∀{F w},St we ρ (zAC pb 8 d.peers::F) w→_:=fun hS=>zWV hb hS
 rw[zR1,show d.peers.length=(d.peers.map (·.1)).length by simp]at k1;have hlm:(d.peers.map (·.1)).length≤100000:=by simpa using hb
 unfold whoV;generalize hl:d.peers.map (·.1)=l at k1 hlm;simp only;have tok:True:=trivial;refine Run.calls2 (n:=22) Tryz.func106 rfl rfl rfl ?_;repeat' first|(have _:=tok;clear tok;refine Qx ?_;clear hS;intro b2 w1 hS)|(refine Qc 158 (c:=k1 hS.tk) (k':=?_);clear hS;intro v w1 hS;obtain⟨ρ2,o2,s2,hT⟩:=zAH zAZ hS;obtain⟨q7,c7,rfl,q8,q9,-⟩:=s2.val;clear hS;have hS:=tke4 (A4:=Row b2 [pP db] 76) (A3:=Row b [pI pub] 3) (A2:=Row db (dvL d pb kb) 208) (A1:=zAC pb 8 d.peers) hT An An An An;clear hT)|(refine Qv 76 (zHa (cs:=[_,_]) (fun id=>decide (getV d.peers id=pub)) s2 rfl (fun x w hS=>zMm hS) hS) ?_;clear hS;intro w1 hS)|apply Qs|apply Qr|(apply Rs<;>intro hc<;>try exact No)|apply Qn|refine Ql ?_|(refine Qx ?_;clear hS;intro b w1 hS)|refine Qt ?_|refine Qf ?_|apply Qk
 · have hneg:zAQ (fun id=>decide (getV d.peers id=pub)) l 0<0:=by assumption
   rw[if_pos hneg];refine Qw Tryz.func106 ?_;exact⟨rfl,o2.back hS.pk⟩
 · have hneg:¬zAQ (fun id=>decide (getV d.peers id=pub)) l 0<0:=by assumption
   rw[if_neg hneg];obtain⟨j,ej,hj⟩:=zG6 (p:=fun id=>decide (getV d.peers id=pub)) (l:=l) (i:=0) (by omega) (by omega);rw[Int.zero_add]at ej;obtain⟨b0,o0,cs0,e0,f0,rfl,m0,h0⟩:=s2.int hj;have hgd:l.getD (zAQ (fun id=>decide (getV d.peers id=pub)) l 0).toNat 0=l[j]:=by rw[ej];simp[List.getD_eq_getElem?_getD,hj]
   rw[hgd];rw[ej]at hneg ⊢;repeat' first|(refine Ql ?_ (h:=by apply Still.load;rfl;rfl;exact Rd.ro m0;exact h0))|apply Qn|refine Ql ?_
   refine Qw Tryz.func106 ?_;exact⟨rfl,o2.back hS.pk⟩
theorem zLy {x:Int}(hS:St we ρ σ w):Cl Tryz.prog 134 [pI x] w fun v w'=>v = .bool (decide (0≤x) && decide (x<1000))∧St we ρ σ w':=by
 refine Run.calls1 (n:=9) Tryz.func134 rfl rfl rfl ?_;repeat' first|apply Qs|apply Qr|(apply Rs<;>intro hc<;>try exact No)|apply Qn|refine Ql ?_|refine Qy ?_|refine Qz ?_
 all_goals
  refine Qw Tryz.func134 ?_;refine⟨?_,hS.pk⟩;clear hS;simp_all [tup];try omega
theorem zHc (hb:d.peers.length≤100000)(hS:St we ρ (Row db (dvL d pb kb) 208::zAC pb 8 d.peers::F) w) :
 Cl Tryz.prog 61 [pP db,pI pub] w fun v w'=>v = .tuple #[pI (zDj d pub).1,pI (zDj d pub).2]∧St we ρ (Row db (dvL d pb kb) 208::zAC pb 8 d.peers::F) w':=by
 have k1:∀{F w},St we ρ (Row db (dvL d pb kb) 208::zAC pb 8 d.peers::F) w→_:=fun hS=>zLG (pub:=pub) hb hS
 unfold zDj;generalize whoV d.peers pub=wv at k1;obtain⟨wi,wb⟩:=wv;cases wb;all_goals
  simp only at k1 ⊢;refine Run.calls2 (n:=33) Tryz.func61 rfl rfl rfl ?_;repeat' first|(refine Qv 106 (k1 hS.tk2) ?_;clear hS;intro w1 hS)|apply Qs|apply Qr|(apply Rs<;>intro hc<;>try exact No)|apply Qn|refine Ql ?_|refine Qy ?_|refine Qz ?_|refine Qt ?_|refine Qf ?_|apply Qk|apply Qb|apply Qi
  all_goals
   refine Qw Tryz.func61 ?_;refine⟨?_,hS.pk⟩;clear hS k1;simp_all [tup]
end
def idB (k:Int):Bool:=decide (0≤k) && decide (k<1000)
def zDK (d:Dv)(k pub:Int):List (Int × Int) × Int :=
 if idB k=false∨pub<1 then(d.peers,1) else if(hasV d.peers k || (whoV d.peers pub).2)=true then(d.peers,4) else kadd 8 d.peers k pub
def zBJ (d:Dv)(k x:Int):List (Int × Int) × Int :=
 if hasV d.peers k=false then(d.psks,4) else if x<1 then(d.psks,1) else kput 8 d.psks k x
section
variable {we w:World}{ρ:List (Nat × Obj)}{σ F:List HP}{db pb kb:Nat}{d:Dv}{k pub x:Int}
theorem zMS (hb:d.peers.length≤100000)(hS:St we ρ (Row db (dvL d pb kb) 208::zAC pb 8 d.peers::F) w) :
 Cl Tryz.prog 84 [pP db,pI k,pI pub] w fun v w'=>v = pI (zDK d k pub).2∧St we ρ (Row db (dvL d pb kb) 208::zAC pb 8 (zDK d k pub).1::F) w':=by
 have k0:∀{F w},St we ρ (Row db (dvL d pb kb) 208::zAC pb 8 d.peers::F) w→_:=fun hS=>zDo (k:=k) hS
 have k1:∀{F w},St we ρ (Row db (dvL d pb kb) 208::zAC pb 8 d.peers::F) w→_:=fun hS=>zLG (pub:=pub) hb hS
 have k2:∀{σ:List HP} {w:World},St we ρ σ w→_:=fun hS=>zLy (x:=k) hS
 have k3:∀{F w},St we ρ (zAC pb 8 d.peers::F) w→_:=fun hS=>zW4 (k:=k) (u:=pub) hb hS
 unfold zDK;rw[show(decide (0≤k) && decide (k<1000))=idB k from rfl]at k2;generalize idB k=bi at k2;generalize whoV d.peers pub=wv at k1;generalize hasV d.peers k=bh at k0;generalize kadd 8 d.peers k pub=ka at k3;obtain⟨wi,wb⟩:=wv;obtain⟨kv2,e2⟩:=ka;simp only at k1 k3 ⊢;cases bi
 · simp only[true_or,if_true]
   refine Run.calls3 (n:=43) Tryz.func84 rfl rfl rfl ?_;repeat' first|(refine Qv 85 (k0 hS.tk2) ?_;clear hS;intro w1 hS)|(refine Qv 106 (k1 hS.tk2) ?_;clear hS;intro w1 hS)|(refine Qv 134 (k2 hS) ?_;clear hS;intro w1 hS)|apply Qs|apply Qr|apply Qn|refine Ql ?_|refine Qz ?_|refine Qt ?_|apply Qb
   refine Qw Tryz.func84 ?_;exact Xp
 by_cases hp:pub<1
 · simp only[hp,or_true,if_true]
   refine Run.calls3 (n:=43) Tryz.func84 rfl rfl rfl ?_;repeat' first|(refine Qv 85 (k0 hS.tk2) ?_;clear hS;intro w1 hS)|(refine Qv 106 (k1 hS.tk2) ?_;clear hS;intro w1 hS)|(refine Qv 134 (k2 hS) ?_;clear hS;intro w1 hS)|apply Qs|apply Qr|(apply Rs<;>intro hc<;>try exact No)|apply Qn|refine Ql ?_|refine Qy ?_|refine Qt ?_|apply Qb
   refine Qw Tryz.func84 ?_;exact Xp
 · simp only[hp,or_false,Bool.true_eq_false,if_false]
   cases bh<;>cases wb;all_goals
    refine Run.calls3 (n:=43) Tryz.func84 rfl rfl rfl ?_;repeat' first|(refine Qv 85 (k0 hS.tk2) ?_;clear hS;intro w1 hS)|(refine Qv 106 (k1 hS.tk2) ?_;clear hS;intro w1 hS)|(refine Qv 134 (k2 hS) ?_;clear hS;intro w1 hS)|(refine Qv 139 (k3 hS.tk) ?_;clear hS;intro w1 hS)|apply Qs|apply Qr|(apply Rs<;>intro hc<;>try exact No)|apply Qn|refine Ql ?_|refine Qy ?_|refine Qz ?_|refine Qt ?_|refine Qf ?_|apply Qk|apply Qb|apply Qi
    refine Qw Tryz.func84 ?_;exact Xp
theorem zLg (hb:d.psks.length≤100000)(hS:St we ρ (Row db (dvL d pb kb) 208::zAC pb 8 d.peers::zAC kb 8 d.psks::F) w) :
 Cl Tryz.prog 86 [pP db,pI k,pI x] w fun v w'=>v = pI (zBJ d k x).2∧St we ρ (Row db (dvL d pb kb) 208::zAC pb 8 d.peers::zAC kb 8 (zBJ d k x).1::F) w':=by
 have k0:∀{F w},St we ρ (Row db (dvL d pb kb) 208::zAC pb 8 d.peers::F) w→_:=fun hS=>zDo (k:=k) hS
 have k3:∀{F w},St we ρ (zAC kb 8 d.psks::F) w→_:=fun hS=>zWG (k:=k) (u:=x) hb hS
 unfold zBJ;generalize hasV d.peers k=bh at k0;generalize kput 8 d.psks k x=ka at k3;obtain⟨kv2,e2⟩:=ka;simp only at k3 ⊢;cases bh
 · simp only[if_true]
   refine Run.calls3 (n:=26) Tryz.func86 rfl rfl rfl ?_;repeat' first|(refine Qv 85 (k0 hS.tk2) ?_;clear hS;intro w1 hS)|apply Qs|apply Qr|apply Qn|refine Ql ?_|refine Qt ?_
   refine Qw Tryz.func86 ?_;exact Xp
 · simp only[Bool.true_eq_false,if_false]
   by_cases hp:x<1
   · simp only[hp,if_true]
     refine Run.calls3 (n:=26) Tryz.func86 rfl rfl rfl ?_;repeat' first|(refine Qv 85 (k0 hS.tk2) ?_;clear hS;intro w1 hS)|apply Qs|apply Qr|(apply Rs<;>intro hc<;>try exact No)|apply Qn|refine Ql ?_|refine Qt ?_|refine Qf ?_|apply Qk
     refine Qw Tryz.func86 ?_;exact Xp
   · simp only[hp,if_false]
     refine Run.calls3 (n:=26) Tryz.func86 rfl rfl rfl ?_;repeat' first|(refine Qv 85 (k0 hS.tk2) ?_;clear hS;intro w1 hS)|(refine Qv 141 (k3 hS.tk) ?_;clear hS;intro w1 hS)|apply Qs|apply Qr|(apply Rs<;>intro hc<;>try exact No)|apply Qn|refine Ql ?_|refine Qf ?_|apply Qk
     refine Qw Tryz.func86 ?_;exact Xp
def zCO (k s pol:Int):Int:=if idB k=false∨s<1∨pol<0∨2<pol then 1 else 0
theorem zEx {s pol:Int}(hS:St we ρ σ w) :
 Cl Tryz.prog 78 [pI k,pI s,pI pol] w fun v w' =>
  (zCO k s pol≠0∧v = .tuple #[.pointer none,pI 1]∧St we ρ σ w') ∨
  (zCO k s pol=0∧∃db pb kb,v = .tuple #[pP db,pI 0]∧St we ρ (Row db (dvL ⟨k,s,pol,[],[]⟩ pb kb) 208::zAC pb 8 []::zAC kb 8 [] :: σ) w'):=by
 have k2:∀{σ:List HP} {w:World},St we ρ σ w→_:=fun hS=>zLy (x:=k) hS
 rw[show(decide (0≤k) && decide (k<1000))=idB k from rfl]at k2;unfold zCO;generalize idB k=bi at k2;cases bi
 · simp only[true_or,if_true]
   refine Run.calls3 (n:=30) Tryz.func78 rfl rfl rfl ?_;repeat' first|(refine Qv 134 (k2 hS) ?_;clear hS;intro w1 hS)|apply Qs|apply Qr|apply Qn|refine Ql ?_|refine Qz ?_|refine Qt ?_
   refine Qw Tryz.func78 ?_;exact .inl ⟨by decide,rfl,hS.pk⟩
 · refine Run.calls3 (n:=30) Tryz.func78 rfl rfl rfl ?_
   repeat' first|(refine Qv 134 (k2 hS) ?_;clear hS;intro w1 hS)|(refine Qc 135 (c:=zWp hS) (k':=?_);clear hS;rintro v w1 ⟨nb,rfl,hS⟩)|apply Qs|apply Qr|(apply Rs<;>intro hc<;>try exact No)|apply Qn|refine Ql ?_|(refine Qx ?_;clear hS;intro b w1 hS)|refine Qy ?_|refine Qz ?_|refine Qt ?_|refine Qf ?_|apply Qk
   all_goals first
    | (have hz:s<1∨pol<0∨2<pol:=by omega
       refine Qw Tryz.func78 ?_;exact .inl ⟨by rw[if_pos (.inr hz)];decide,rfl,hS.pk⟩)
    | (have hz:¬(true=false∨s<1∨pol<0∨2<pol):=by simp;omega
       refine Qw Tryz.func78 ?_;exact .inr ⟨by rw[if_neg hz],_,_,_,rfl,hS.pk⟩)
end
end Go.Proofs.YtcikdogkkgefcaaGreatDoor
