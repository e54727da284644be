/- Part of the proof: the walk over the program and its laws: Qa. -/
import Derived.Test.YtlcphjcpoinolaaGreatP0
import Derived.Test.YtlcphjcpoinolaaGreatP9
set_option linter.unusedVariables false
namespace Go.Proofs.YtlcphjcpoinolaaGreat
open Go.RowKit Go.Th
set_option maxRecDepth 20000
abbrev kyI:Int→Value:=fun k=>Value.int .i64 k
structure CkId where
  ic:Nat
  is:Nat
  il:Nat
  ir:Nat
  ib:Nat
  iu:Nat
structure CkE where
  es:XbA Int
  el:XbA Int
  er:XbA Int
  eb:XbA Int
  eu:XbA Int
  ts:Nat
  tl:Nat
  tr:Nat
  tb:Nat
  tu:Nat
structure CkS where
  styles:Int→Int
  lists:Int→Bool
  revs:Int→Bool
  before:Int→Bool
  used:Int→Bool
  units:Int
  e:CkE
def ckB (c:CkId) (u:Int):Blk:=⟨[.mp c.is,.mp c.il,.mp c.ir,.mp c.ib,.mp c.iu,I u],117,true⟩
def CkH (c:CkId) (s:CkS) (K:List (Nat × Blk)) (H:Xi):Prop :=
  ∃ (es el er eb eu:XbA Int) (ts tl tr tb tu:Nat),Has H ((c.ic,ckB c s.units)::(c.is,XU kyI es ts)::(c.il,XU kyI el tl)::(c.ir,XU kyI er tr)::(c.ib,XU kyI eb tb)::(c.iu,XU kyI eu tu)::K) ∧
    (∀ k,(Xdk es k).getD (I 0)=I (s.styles k))∧(∀ k,(Xdk el k).getD (B false)=B (s.lists k))∧(∀ k,(Xdk er k).getD (B false)=B (s.revs k))∧(∀ k,(Xdk eb k).getD (B false)=B (s.before k))∧((∀ k,(Xdk eu k).getD (B false)=B (s.used k))∧s.e=⟨es,el,er,eb,eu,ts,tl,tr,tb,tu⟩)
def XrR (key:Int):Int:=if key=1 then 2 else 1
def XoV (s:CkS) (key v:Int):Int :=
  if key=20∨key=1 then XbO (decide (v≠0∧s.styles v≠XrR key)) 25 else if key=33 then XbO (decide (v≠0∧s.lists v=false)) 26 else 0
set_option maxHeartbeats 16000000 in
theorem Xf0 (c:CkId) (s:CkS) (K:List (Nat × Blk)) (H:Xi) (hc:CkH c s K H) (key v:Int):AC Tryz.prog 115 [.ptr c.ic 0,I key,I v] H (fun p G=>p=I (XoV s key v)∧G=H):=by
  obtain ⟨es,el,er,eb,eu,ts,tl,tr,tb,tu,hG,a1,a2,a3,a4,a5⟩:=hc
  have hwt:∀ e:Int,Iso Tryz.prog 50 [B true,I e] (fun p=>p=I (XbO true e)):=fun e=>Xbe true e
  have hwf:∀ e:Int,Iso Tryz.prog 50 [B false,I e] (fun p=>p=I (XbO false e)):=fun e=>Xbe false e
  have tw:∀ (b:Bool) (e:Int),∀ c ∈ [B b,I e],Xk c:=fun b e=>TreeL.cons (Xk.v _) (TreeL.cons (Xk.v _) TreeL.nil)
  refine Xv Tryz.func115 rfl rfl rfl ?_
  have st:∀ key:Int,key=20∨key=1→XoV s key v=XbO (decide (v≠0∧s.styles v≠XrR key)) 25:=fun key h=>by unfold XoV;rw [if_pos h]
  by_cases k1:key=20
  · subst k1
    rw [st 20 (.inl rfl),show XrR 20=1 from rfl]
    clear st
    by_cases v0:v=0
    · rw [decide_eq_false (fun h=>h.1 v0)]
      repeat(first|refine Zes ?_|(refine Zbd ?_;rintro _ rfl))
      exact Zai
    by_cases v1:s.styles v=1
    · rw [decide_eq_false (fun h=>h.2 v1)]
      repeat(first|refine Zes ?_|refine ZbX ?_|(refine Zbd ?_;rintro _ rfl)|refine ZL ?_)
      exact Zai
    · rw [decide_eq_true ⟨v0,v1⟩]
      repeat(first|refine Zes ?_|refine ZbX ?_|(refine ZcB ?_;rintro _ rfl)|refine ZL ?_)
      exact Zai
  by_cases k2:key=1
  · subst k2
    rw [st 1 (.inr rfl),show XrR 1=2 from rfl]
    clear st
    by_cases v0:v=0
    · rw [decide_eq_false (fun h=>h.1 v0)]
      repeat(first|refine Zes ?_|(refine Zbd ?_;rintro _ rfl))
      exact Zai
    by_cases v1:s.styles v=2
    · rw [decide_eq_false (fun h=>h.2 v1)]
      repeat(first|refine Zes ?_|refine ZbX ?_|(refine Zbd ?_;rintro _ rfl)|refine ZL ?_)
      exact Zai
    · rw [decide_eq_true ⟨v0,v1⟩]
      repeat(first|refine Zes ?_|refine ZbX ?_|(refine ZcB ?_;rintro _ rfl)|refine ZL ?_)
      exact Zai
  clear st
  have e0:XoV s key v=if key=33 then XbO (decide (v≠0∧s.lists v=false)) 26 else 0:=by unfold XoV;rw [if_neg (by omega)]
  rw [e0]
  clear e0
  by_cases k3:key=33
  · rw [if_pos k3]
    by_cases v0:v=0
    · rw [decide_eq_false (fun h=>h.1 v0)]
      repeat(first|refine Zes ?_|(refine Zbd ?_;rintro _ rfl))
      exact Zai
    have a2:=a2 v
    cases v1:s.lists v with
    | true =>
      rw [v1] at a2
      rw [decide_eq_false (fun h=>by simp at h)]
      repeat(first|refine Zes ?_|refine ZdG ?_|(refine Zbd ?_;rintro _ rfl)|refine ZL ?_)
      exact Zai
    | false =>
      rw [v1] at a2
      rw [decide_eq_true ⟨v0,rfl⟩]
      repeat(first|refine Zes ?_|refine ZdG ?_|(refine ZcB ?_;rintro _ rfl)|refine ZL ?_)
      exact Zai
  rw [if_neg k3]
  repeat(first|refine Zes ?_)
  exact Zai
end Go.Proofs.YtlcphjcpoinolaaGreat
