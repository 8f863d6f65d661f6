/- Rules by which simp runs the abstract code. -/
import Derived.Attr
import Derived.Test.YthlnjgdoodjgoaaGreatDoorXCod5
set_option linter.unusedSimpArgs false
set_option linter.unusedVariables false
namespace Cod
open Go
section
variable {call : CallF} {ρ : LO → AV} {d : Nat}
theorem step_mv {x} : step call ρ d (.mv x) = one (ρ x) := rfl
theorem step_nil {sz} : step call ρ d (.nil sz) = mkBuf (.s d 0) [] 0 sz [] := rfl
theorem step_pick {c} {a} {b} : step call ρ d (.pick c a b) = pickV (ρ c) (ρ a) (ρ b) := rfl
theorem step_new {cells} : step call ρ d (.new cells) = mkRef (.s d 0) cells := rfl
theorem step_box {x} : step call ρ d (.box x) = boxV (.s d 0) (cellsO (ρ x)) := rfl
theorem step_build {zero} {ps} : step call ρ d (.build zero ps) = buildV (fillO ρ ps (some zero)) := rfl
theorem step_bslice {sz} {n} {zero} {ps} : step call ρ d (.bslice sz n zero ps) = bsliceV (.s d 0) n sz (fillO ρ ps (some (rep zero n))) := rfl
theorem step_ld {n} {a} : step call ρ d (.ld n a) = ldV n (ρ a) := rfl
theorem step_st {n} {a} {x} : step call ρ d (.st n a x) = stV n (ρ a) (cellsO (ρ x)) := rfl
theorem step_nilck {x} : step call ρ d (.nilck x) = nilckV (ρ x) := rfl
theorem step_bin {op} {x} {y} : step call ρ d (.bin op x y) = optV (binAV op (ρ x) (ρ y)) := rfl
theorem step_eqb {neg} {x} {y} : step call ρ d (.eqb neg x y) = optV (eqbAV neg (ρ x) (ρ y)) := rfl
theorem step_eqa {ks} {neg} {x} {y} : step call ρ d (.eqa ks neg x y) = eqaV ks neg (ρ x) (ρ y) := rfl
theorem step_eqn {kd} {neg} {x} {y} : step call ρ d (.eqn kd neg x y) = eqnV kd neg (ρ x) (ρ y) := rfl
theorem step_un {op} {x} : step call ρ d (.un op x) = optV (unAV op (ρ x)) := rfl
theorem step_cvi {k} {x} : step call ρ d (.cvi k x) = cviV k (ρ x) := rfl
theorem step_s2s {x} : step call ρ d (.s2s x) = s2sV (ρ x) := rfl
theorem step_s2b {x} : step call ρ d (.s2b x) = s2bV (.s d 0) (ρ x) := rfl
theorem step_b2s {x} : step call ρ d (.b2s x) = b2sV (ρ x) := rfl
theorem step_sls {x} {lo} {hi} : step call ρ d (.sls x lo hi) = slsV (ρ x) (loV (lo.map ρ)) (hiV (lenV none (ρ x)) (hi.map ρ)) := rfl
theorem step_lens {x} : step call ρ d (.lens x) = lensV (ρ x) := rfl
theorem step_b2b {x} : step call ρ d (.b2b x) = b2bV (ρ x) := rfl
theorem step_mkif {t} {x} : step call ρ d (.mkif t x) = mkifV t (ρ x) := rfl
theorem step_mkfn {f} {cap} : step call ρ d (.mkfn f cap) = one (.clo f (cap.map ρ)) := rfl
theorem step_mks {sz} {bytes} {zero} {l} {c} : step call ρ d (.mks sz bytes zero l c) = mksV (.s d 0) sz bytes zero (ρ l) (ρ c) := rfl
theorem step_sl {sz} {arr} {x} {lo} {hi} : step call ρ d (.sl sz arr x lo hi) = slV sz arr (ρ x) (loV (lo.map ρ)) (hiV (lenV arr (ρ x)) (hi.map ρ)) := rfl
theorem step_fa {x} {off} : step call ρ d (.fa x off) = faV off (ρ x) := rfl
theorem step_fld {x} {off} {n} : step call ρ d (.fld x off n) = fldV off n (ρ x) := rfl
theorem step_ia {sz} {arr} {x} {i} : step call ρ d (.ia sz arr x i) = iaV sz arr (ρ x) (ρ i) := rfl
theorem step_ix {sz} {arr} {agg} {x} {i} : step call ρ d (.ix sz arr agg x i) = ixV sz agg arr (ρ x) (ρ i) := rfl
theorem step_s2a {n} {sz} {x} : step call ρ d (.s2a n sz x) = s2aV n sz (ρ x) := rfl
theorem step_ext {x} {i} : step call ρ d (.ext x i) = extV i (ρ x) := rfl
theorem step_call {f} {args} {take} : step call ρ d (.call f args take) = callV call d take (args.map ρ) (ρ f) := rfl
theorem step_app {sz} {bytes} {s} {x} : step call ρ d (.app sz bytes s x) = (cellsAt sz (ρ x)).bindW (fun p => (fix p.1).bindW (fun q => appV (.s d 0) sz bytes p.2 q.1 q.2.1 q.2.2 (ρ s)) ⟨⟩) ⟨⟩ := rfl
theorem step_appz {sz} {bytes} {zero} {s} {n} : step call ρ d (.appz sz bytes zero s n) = appzV (.s d 0) sz bytes zero (ρ s) (ρ n) := rfl
theorem step_len {arr} {x} : step call ρ d (.len arr x) = lenOV arr (ρ x) := rfl
theorem step_copy {sz} {dd} {s} : step call ρ d (.copy sz dd s) = (cellsAt sz (ρ s)).bindW (fun p => copyV sz p.2 p.1 (ρ dd)) ⟨⟩ := rfl
theorem step_min {x} {y} : step call ρ d (.min x y) = minV (ρ x) (ρ y) := rfl
theorem step_max {x} {y} : step call ρ d (.max x y) = maxV (ρ x) (ρ y) := rfl
theorem step_cap {x} : step call ρ d (.cap x) = capV (ρ x) := rfl
theorem step_r2s {x} : step call ρ d (.r2s x) = r2sV (ρ x) := rfl
theorem step_rng {x} : step call ρ d (.rng x) = rngV (.s d 0) (ρ x) := rfl
theorem step_nxt {x} : step call ρ d (.nxt x) = nxtV (ρ x) := rfl
theorem step_mkmap : step call ρ d .mkmap = mkObj (.s d 0) (.mp [] []) (.mpr (.s d 0)) := rfl
theorem step_mget {str zero ok m k} : step call ρ d (.mget str zero ok m k) = mgetV str zero ok (ρ k) (ρ m) := rfl
theorem step_mput {str m k x} : step call ρ d (.mput str m k x) = mputV str (isAggA (ρ x)) (ρ k) (cellsO (ρ x)) (ρ m) := rfl
theorem step_mdel {str m k} : step call ρ d (.mdel str m k) = mdelV str (ρ k) (ρ m) := rfl
theorem step_mlen {x} : step call ρ d (.mlen x) = mlenV (ρ x) := rfl
theorem step_stop : step call ρ d (.stop) = .fail := rfl
end
section
variable {E : Env} {sl loc : List (Nat × AV)}
theorem evR_t {n : Nat} : evR E sl loc (.t n) = getR sl loc n := rfl
theorem evR_k {v : AV} : evR E sl loc (.k v) = v := rfl
theorem evR_g {n : Nat} : evR E sl loc (.g n) = gvar (E.glob n) := rfl
theorem evR_f {n : Nat} : evR E sl loc (.f n) = .clo n [] := rfl
theorem ev_t {n : Nat} : ev E sl (.t n) = getL sl n := rfl
theorem ev_k {v : AV} : ev E sl (.k v) = v := rfl
theorem dstN_some {n : Nat} : dstN (some n) = n := rfl
theorem dstN_none : dstN none = 0 := rfl
end
theorem gdV_bool {b : Bool} : gdV (.bool b) = true := rfl
theorem gdV_und : gdV .und = true := rfl
theorem gdB_bool {w b : Bool} : gdB w (.bool b) = (b == w) := rfl
theorem gdB_und {w : Bool} : gdB w .und = false := rfl
theorem isB_bool {b : Bool} : isB (.bool b) = true := rfl
theorem outO_some {k : List It} : outO (some k) = k := rfl
theorem run_ret {α : Type} {a : α} {σ : Store} : (Acc.ret a).run σ = some a := rfl
theorem run_get {α : Type} {s : Site} {k : Option Ent → Acc α} {σ : Store} : (Acc.get s k).run σ = (k (getS σ s)).run σ := rfl
theorem bind_ret {α β : Type} {a : α} {f : α → Acc β} : (Acc.ret a).bind f = f a := rfl
theorem reads_ret {α : Type} {a : α} {σ : Store} : (Acc.ret a).reads σ = [] := rfl
theorem reads_get {α : Type} {s : Site} {k : Option Ent → Acc α} {σ : Store} : (Acc.get s k).reads σ = s :: (k (getS σ s)).reads σ := rfl
theorem run_bindG {α β : Type} {s : Site} {k : Option Ent → Acc α} {f : α → Acc β} {σ : Store} : ((Acc.get s k).bind f).run σ = ((k (getS σ s)).bind f).run σ := rfl
theorem reads_bindG {α β : Type} {s : Site} {k : Option Ent → Acc α} {f : α → Acc β} {σ : Store} : ((Acc.get s k).bind f).reads σ = s :: ((k (getS σ s)).bind f).reads σ := rfl
theorem bind_bind {α β γ : Type} (x : Acc α) (f : α → Acc β) (g : β → Acc γ) : (x.bind f).bind g = x.bind fun a => (f a).bind g := by
  induction x with
  | ret a => rfl
  | fail => rfl
  | get s k ih => exact congrArg (Acc.get s) (funext fun e => ih e)
theorem bind_bindW {α β γ : Type} (x : Acc α) (f : α → Acc β) (g : β → Acc γ) (w : Wit g) : (x.bind f).bindW g w = x.bindW (fun a => (f a).bindW g ⟨⟩) ⟨⟩ := bind_bind x f g
theorem bindW_bindW {α β γ : Type} (x : Acc α) (f : α → Acc β) (v : Wit f) (g : β → Acc γ) (w : Wit g) : (x.bindW f v).bindW g w = x.bindW (fun a => (f a).bindW g ⟨⟩) ⟨⟩ := bind_bind x f g
theorem bindW_ret {α β : Type} {a : α} {f : α → Acc β} {w : Wit f} : (Acc.ret a).bindW f w = f a := rfl
theorem run_bindW {α β : Type} {s : Site} {k : Option Ent → Acc α} {f : α → Acc β} {w : Wit f} {σ : Store} : ((Acc.get s k).bindW f w).run σ = ((k (getS σ s)).bindW f ⟨⟩).run σ := rfl
theorem reads_bindW {α β : Type} {s : Site} {k : Option Ent → Acc α} {f : α → Acc β} {w : Wit f} {σ : Store} : ((Acc.get s k).bindW f w).reads σ = s :: ((k (getS σ s)).bindW f ⟨⟩).reads σ := rfl
theorem one_eq {x : AV} : one x = .ret (x, []) := rfl
theorem look_eq {s : Site} {g : Nat} : look s g = .get s (lookE g) := rfl
theorem lookE_some {g : Nat} {e : Ent} : lookE g (some e) = if e.alive = true ∧ e.g = g then .ret e else .fail := rfl
theorem mk_eq {s : Site} {v : Bool} {cs : List AV} : mk s v cs = .get s (mkE s v cs) := rfl
theorem mkE_some {s : Site} {v : Bool} {cs : List AV} {e : Ent} : mkE s v cs (some e) = .ret (e.g + 1, [(s, ⟨e.g + 1, true, true, v, cs⟩)]) := rfl
theorem mkE_none {s : Site} {v : Bool} {cs : List AV} : mkE s v cs none = .ret (0, [(s, ⟨0, true, true, v, cs⟩)]) := rfl
theorem mkRef_eq {s : Site} {cs : List AV} : mkRef s cs = (mk s true cs).bindW (fun p => .ret (.ref s p.1 0, p.2)) ⟨⟩ := rfl
theorem mkBuf_eq {s : Site} {cs : List AV} {n sz : Nat} {u : Ups} : mkBuf s cs n sz u = (mk s false cs).bindW (fun p => .ret (.buf s p.1 0 n sz, u ++ p.2)) ⟨⟩ := rfl
theorem view1_int {k : IntKind} {n : Int} : view1 (.int k n) = .ret (.int k n, []) := rfl
theorem view1_bool {b : Bool} : view1 (.bool b) = .ret (.bool b, []) := rfl
theorem view1_str {l : List UInt8} : view1 (.str l) = .ret (.str l, []) := rfl
theorem view1_lst {cs : List AV} {n : Nat} : view1 (.lst cs n) = .ret (.lst cs n, []) := rfl
theorem view1_fp {cs : List AV} {n : Nat} : view1 (.fp cs n) = .ret (.fp cs n, []) := rfl
theorem view1_nilp : view1 .nilp = .ret (.nilp, []) := rfl
theorem view1_nilf : view1 .nilf = .ret (.nilf, []) := rfl
theorem view1_nili : view1 .nili = .ret (.nili, []) := rfl
theorem view1_nilm : view1 .nilm = .ret (.nilm, []) := rfl
theorem view1_clo {f : Nat} {cs : List AV} : view1 (.clo f cs) = if flats cs = true then .ret (.clo f cs, []) else .fail := rfl
theorem view1_ifc {t : Nat} {x : AV} : view1 (.ifc t x) = if flat x = true then .ret (.ifc t x, []) else .fail := rfl
theorem view_int {k : IntKind} {n : Int} : view (.int k n) = .ret (.int k n, []) := rfl
theorem view_bool {b : Bool} : view (.bool b) = .ret (.bool b, []) := rfl
theorem view_str {l : List UInt8} : view (.str l) = .ret (.str l, []) := rfl
theorem view_lst {cs : List AV} {n : Nat} : view (.lst cs n) = .ret (.lst cs n, []) := rfl
theorem view_fp {cs : List AV} {n : Nat} : view (.fp cs n) = .ret (.fp cs n, []) := rfl
theorem view_nils : view .nils = .ret (.lst [] 0, []) := rfl
theorem view_nilp : view .nilp = .ret (.nilp, []) := rfl
theorem view_nilf : view .nilf = .ret (.nilf, []) := rfl
theorem view_nili : view .nili = .ret (.nili, []) := rfl
theorem view_nilm : view .nilm = .ret (.nilm, []) := rfl
theorem view_ifc {t : Nat} {x : AV} : view (.ifc t x) = if flat x = true then .ret (.ifc t x, []) else .fail := rfl
theorem view_buf {s : Site} {g off n z : Nat} : view (.buf s g off n z) = (look s g).bindW (viewB off n z s) ⟨⟩ := rfl
theorem view_ref {s : Site} {g off : Nat} : view (.ref s g off) = (look s g).bindW (viewR off s) ⟨⟩ := rfl
theorem view_clo0 {f : Nat} : view (.clo f []) = .ret (.clo f [], []) := rfl
theorem viewB_eq {off n z : Nat} {s : Site} {e : Ent} : viewB off n z s e = if off + n * z ≤ e.cells.length ∧ flats e.cells = true then .ret (.lst (sub e.cells off (n * z)) n, [s]) else .fail := rfl
theorem viewR_eq {off : Nat} {s : Site} {e : Ent} : viewR off s e = if flats e.cells = true then .ret (.fp e.cells off, [s]) else .fail := rfl
theorem stillE_some {s : Site} {u : Ups} {e : Ent} : stillE s u (some e) = .ret ((s, { e with rw := false }) :: u) := rfl
theorem cellsB_eq {sz off n z : Nat} {e : Ent} : cellsB sz off n z e = if z = sz ∧ off + n * z ≤ e.cells.length then .ret (sub e.cells off (n * z), n) else .fail := rfl
theorem genE_some {k : Nat} {l : List (Nat × Nat)} {e : Ent} : genE k l (some e) = .ret ((k, e.g + 1) :: l) := rfl
theorem genE_none {k : Nat} {l : List (Nat × Nat)} : genE k l none = .ret ((k, 0) :: l) := rfl
theorem passing_nil {i : Nat} {take : List Nat} : passing i take [] = .ret ([], [], []) := rfl
theorem passing_cons {i : Nat} {take : List Nat} {x : AV} {xs : List AV} : passing i take (x :: xs) =
    SelW (take.contains i) ((passing (i + 1) take xs).bindW (fun p => .ret (x :: p.1, refsOf x ++ p.2.1, p.2.2)) ⟨⟩)
      ((view x).bindW (fun q => (passing (i + 1) take xs).bindW (fun p => .ret (q.1 :: p.1, p.2.1, q.2 ++ p.2.2)) ⟨⟩) ⟨⟩) ⟨⟩ ⟨⟩ := rfl
theorem views_nil : views [] = .ret ([], []) := rfl
theorem views_cons {c : AV} {cs : List AV} : views (c :: cs) = (view1 c).bindW (fun p => (views cs).bindW (fun q => .ret (p.1 :: q.1, p.2 ++ q.2)) ⟨⟩) ⟨⟩ := rfl
theorem still_nil : still [] = .ret [] := rfl
theorem still_cons {s : Site} {ss : List Site} : still (s :: ss) = (still ss).bindW (fun u => .get s (stillE s u)) ⟨⟩ := rfl
theorem gather_nil {n : Nat} {seen : List Site} : gather (n + 1) [] seen = .ret [] := rfl
theorem gather_cons {n : Nat} {s : Site} {g : Nat} {r : List (Site × Nat)} {seen : List Site} : gather (n + 1) ((s, g) :: r) seen =
    SelW (seen.contains s) (gather n r seen)
      ((look s g).bindW (fun e => (gather n (r ++ refsOfs e.cells) (s :: seen)).bindW (fun u => .ret ((s, e) :: u)) ⟨⟩) ⟨⟩) ⟨⟩ ⟨⟩ := rfl
theorem backGens_nil {d : Nat} : backGens d [] = .ret [] := rfl
theorem backGens_r {d k : Nat} {e : Ent} {r : Store} : backGens d ((.r k, e) :: r) = (backGens d r).bindW (fun l => .get (.s d k) (genE k l)) ⟨⟩ := rfl
theorem backGens_up {d : Nat} {x : Site} {e : Ent} {r : Store} : backGens d ((.up x, e) :: r) = backGens d r := rfl
theorem callAV_eq {call : CallF} {d f : Nat} {args : List AV} {take : List Nat} : callAV call d f args take =
  (passing 0 take args).bindW (fun p => (gather 64 p.2.1 []).bindW (fun es => backV d p.2.2 es (call f (rens (upName es) p.1) (upEnts es es))) ⟨⟩) ⟨⟩ := rfl
theorem backV_some {d : Nat} {ss : List Site} {es : List (Site × Ent)} {v : AV} {σ : Store} : backV d ss es (some (v, σ)) =
    SelW (tidy σ && !(anyIn es ss)) ((backGens d σ).bindW (fun gs => LetA (backEnts d gs σ) (fun b => SelW (distinct b) (backU ss es (ren (backName d gs) v) b) .fail ⟨⟩ ⟨⟩) ⟨⟩) ⟨⟩) .fail ⟨⟩ ⟨⟩ := rfl
theorem backU_eq {ss : List Site} {es : List (Site × Ent)} {v : AV} {b : Ups} : backU ss es v b =
    SelW (leads v || anyLeads b) ((still ss).bindW (fun u => .ret (v, u ++ (b ++ gone b es))) ⟨⟩) (.ret (v, b ++ gone b es)) ⟨⟩ ⟨⟩ := rfl
theorem fresh_eq {σ : Ups} {s : Site} : fresh σ s = (getS σ s).isNone := rfl
theorem optV_some {x : AV} : optV (some x) = .ret (x, []) := rfl
theorem pickV_bool {t : Bool} {a b : AV} : pickV (.bool t) a b = .ret (bif t then a else b, []) := rfl
theorem aggV_eq {cs : List AV} {off n : Nat} : aggV cs off n = if off + n ≤ cs.length then .ret (.agg (sub cs off n), []) else .fail := rfl
theorem buildV_some {cs : List AV} : buildV (some cs) = .ret (.agg cs, []) := rfl
theorem bsliceV_some {s : Site} {n sz : Nat} {cs : List AV} : bsliceV s n sz (some cs) = (fix cs).bindW (fun p => mkBuf s p.1 n sz p.2.1) ⟨⟩ := rfl
theorem ldC_none {off : Nat} {e : Ent} : ldC none off e = optV e.cells[off]? := rfl
theorem ldC_some {n off : Nat} {e : Ent} : ldC (some n) off e = aggV e.cells off n := rfl
theorem ldV_fp0 {cs : List AV} {off : Nat} : ldV none (.fp cs off) = optV cs[off]? := rfl
theorem ldV_fp1 {cs : List AV} {off n : Nat} : ldV (some n) (.fp cs off) = aggV cs off n := rfl
theorem ldV_ref0 {s : Site} {g off : Nat} : ldV none (.ref s g off) = (look s g).bindW (ldC none off) ⟨⟩ := rfl
theorem ldV_ref1 {s : Site} {g off n : Nat} : ldV (some n) (.ref s g off) = (look s g).bindW (ldC (some n) off) ⟨⟩ := rfl
theorem stC_eq {s : Site} {off n : Nat} {xs : List AV} {e : Ent} : stC s off n xs e =
  if e.rw = true ∧ xs.length = n ∧ off + n ≤ e.cells.length ∧ hards xs = true then
    (bif e.var then .ret (.und, [(s, { e with cells := over e.cells off xs })])
     else (fix xs).bindW (fun p => bif p.2.2.contains s then .fail else .ret (.und, p.2.1 ++ [(s, { e with cells := over e.cells off p.1 })])) ⟨⟩)
  else .fail := rfl
theorem stV_ref {n : Nat} {s : Site} {g off : Nat} {xs : List AV} : stV n (.ref s g off) (some xs) = (look s g).bindW (stC s off n xs) ⟨⟩ := rfl
theorem boxV_some {s : Site} {xs : List AV} : boxV s (some xs) = mkRef s xs := rfl
theorem fillC_someG {cells ys : List AV} {off n : Nat} : fillC cells off n (some ys) = if ys.length = n ∧ off + n ≤ cells.length then some (over cells off ys) else none := rfl
theorem nilckV_ref {s : Site} {g off : Nat} : nilckV (.ref s g off) = still1 s g (.ref s g off) := rfl
theorem nilckV_fp {cs : List AV} {off : Nat} : nilckV (.fp cs off) = .ret (.fp cs off, []) := rfl
theorem cviV_int {k k' : IntKind} {n : Int} : cviV k (.int k' n) = .ret (.int k (k.wrap n), []) := rfl
theorem s2sV_str {l : List UInt8} : s2sV (.str l) = .ret (.str l, []) := rfl
theorem s2bV_str {s : Site} {l : List UInt8} : s2bV s (.str l) = mkBuf s (ofBytes l) l.length 1 [] := rfl
theorem strV_some {l : List UInt8} : strV (some l) = .ret (.str l, []) := rfl
theorem b2bV_buf {s : Site} {g off n z : Nat} : b2bV (.buf s g off n z) = (look s g).bindW (fun e => if e.rw = true ∧ e.cells.isEmpty = false then .ret (.buf s g off n z, []) else .fail) ⟨⟩ := rfl
theorem mksV_int {s : Site} {sz bytes : Nat} {zero : List AV} {l c : Int} : mksV s sz bytes zero (.int .i64 l) (.int .i64 c) =
    if 0 ≤ l ∧ l ≤ c ∧ bytes * c ≤ 281474976710656 ∧ c ≤ 281474976710656 then mkBuf s (rep zero l.toNat) l.toNat sz [] else .fail := rfl
theorem loV_some {x : AV} : loV (some x) = x := rfl
theorem loV_none : loV none = .int .i64 0 := rfl
theorem hiV_some {n : Nat} {x : AV} : hiV n (some x) = x := rfl
theorem hiV_none {n : Nat} : hiV n none = .int .i64 n := rfl
theorem lenV_arr {n : Nat} {x : AV} : lenV (some n) x = n := rfl
theorem lenV_str {l : List UInt8} : lenV none (.str l) = l.length := rfl
theorem lenV_lst {cs : List AV} {n : Nat} : lenV none (.lst cs n) = n := rfl
theorem lenV_buf {s : Site} {g off n z : Nat} : lenV none (.buf s g off n z) = n := rfl
theorem lenV_nils : lenV none .nils = 0 := rfl
theorem slB_ref {sz n l h : Nat} {s : Site} {g off : Nat} : slB sz (some n) (.ref s g off) l h = (look s g).bindW (slR sz n l h s g off) ⟨⟩ := rfl
theorem slR_eq {sz n l h : Nat} {s : Site} {g off : Nat} {e : Ent} : slR sz n l h s g off e = if off + n * sz ≤ e.cells.length then .ret (.buf s g (off + l * sz) (h - l) sz, []) else .fail := rfl
theorem slB_fp {sz n l h : Nat} {cs : List AV} {off : Nat} : slB sz (some n) (.fp cs off) l h = if off + n * sz ≤ cs.length then .ret (.lst (sub cs (off + l * sz) ((h - l) * sz)) (h - l), []) else .fail := rfl
theorem slsV_str {k k' : IntKind} {l h : Int} {t : List UInt8} : slsV (.str t) (.int k l) (.int k' h) = if 0 ≤ l ∧ l ≤ h ∧ h ≤ t.length then .ret (.str (sub t l.toNat (h.toNat - l.toNat)), []) else .fail := rfl
theorem b2sV_lst {cs : List AV} {n : Nat} : b2sV (.lst cs n) = (cellsAt 1 (.lst cs n)).bindW (fun p => strV (bytesOf p.1)) ⟨⟩ := rfl
theorem b2sV_buf {s : Site} {g o n z : Nat} : b2sV (.buf s g o n z) = (cellsAt 1 (.buf s g o n z)).bindW (fun p => strV (bytesOf p.1)) ⟨⟩ := rfl
theorem b2sV_nils : b2sV .nils = .ret (.str [], []) := rfl
theorem slB_lst {sz l h n : Nat} {cs : List AV} : slB sz none (.lst cs n) l h = if cs.length = n * sz then .ret (.lst (sub cs (l * sz) ((h - l) * sz)) (h - l), []) else .fail := rfl
theorem slB_buf {sz l h : Nat} {s : Site} {g off n z : Nat} : slB sz none (.buf s g off n z) l h = if z = sz then still1 s g (.buf s g (off + l * sz) (h - l) sz) else .fail := rfl
theorem slB_nils {sz l h : Nat} : slB sz none .nils l h = .ret (.nils, []) := rfl
theorem slV_int {sz : Nat} {arr : Option Nat} {x : AV} {k k' : IntKind} {l h : Int} : slV sz arr x (.int k l) (.int k' h) = if 0 ≤ l ∧ l ≤ h ∧ h ≤ lenV arr x then slB sz arr x l.toNat h.toNat else .fail := rfl
theorem faV_ref {off : Nat} {s : Site} {g o : Nat} : faV off (.ref s g o) = still1 s g (.ref s g (o + off)) := rfl
theorem faV_fp {off : Nat} {cs : List AV} {o : Nat} : faV off (.fp cs o) = .ret (.fp cs (o + off), []) := rfl
theorem fldV_none {off : Nat} {cs : List AV} : fldV off none (.agg cs) = optV cs[off]? := rfl
theorem fldV_some {off n : Nat} {cs : List AV} : fldV off (some n) (.agg cs) = aggV cs off n := rfl
theorem iaV_ref {sz n : Nat} {s : Site} {g o : Nat} {k : IntKind} {i : Int} : iaV sz (some n) (.ref s g o) (.int k i) = if 0 ≤ i ∧ i < n then still1 s g (.ref s g (o + i.toNat * sz)) else .fail := rfl
theorem iaV_fp {sz n : Nat} {cs : List AV} {o : Nat} {k : IntKind} {i : Int} : iaV sz (some n) (.fp cs o) (.int k i) = if 0 ≤ i ∧ i < n then .ret (.fp cs (o + i.toNat * sz), []) else .fail := rfl
theorem iaV_lst {sz n : Nat} {cs : List AV} {k : IntKind} {i : Int} : iaV sz none (.lst cs n) (.int k i) = if 0 ≤ i ∧ i < n then .ret (.fp cs (i.toNat * sz), []) else .fail := rfl
theorem iaV_buf {sz : Nat} {s : Site} {g o n z : Nat} {k : IntKind} {i : Int} : iaV sz none (.buf s g o n z) (.int k i) = if 0 ≤ i ∧ i < n ∧ z = sz then still1 s g (.ref s g (o + i.toNat * sz)) else .fail := rfl
theorem byteV_some {b : UInt8} : byteV (some b) = .ret (.int .u8 b.toNat, []) := rfl
theorem ixV_agg {sz n : Nat} {agg : Bool} {cs : List AV} {k : IntKind} {i : Int} : ixV sz agg (some n) (.agg cs) (.int k i) =
  if 0 ≤ i ∧ i < n ∧ i.toNat * sz + sz ≤ cs.length then (bif agg then one (.agg (sub cs (i.toNat * sz) sz)) else optV cs[i.toNat * sz]?) else .fail := rfl
theorem ixV_str {sz : Nat} {agg : Bool} {t : List UInt8} {k : IntKind} {i : Int} : ixV sz agg none (.str t) (.int k i) = if 0 ≤ i then byteV t[i.toNat]? else .fail := rfl
theorem s2aV_lst {n sz m : Nat} {cs : List AV} : s2aV n sz (.lst cs m) = if n ≤ m ∧ cs.length = m * sz ∧ 0 < n then .ret (.fp cs 0, []) else .fail := rfl
theorem s2aV_buf {n sz m : Nat} {s : Site} {g o z : Nat} : s2aV n sz (.buf s g o m z) = if n ≤ m ∧ z = sz ∧ 0 < n then still1 s g (.ref s g o) else .fail := rfl
theorem extV_tup {i : Nat} {cs : List AV} : extV i (.tup cs) = optV cs[i]? := rfl
theorem callV_clo {call : CallF} {d : Nat} {take : List Nat} {args : List AV} {f : Nat} {cap : List AV} : callV call d take args (.clo f cap) = callAV call d f (args ++ cap) take := rfl
theorem appB_eq {t : Site} {sz bytes m : Nat} {vs : List AV} {u : Ups} {ss : List Site} {s : Site} {o n z : Nat} {e : Ent} : appB t sz bytes m vs u ss s o n z e =
  if e.rw = true ∧ e.var = false ∧ z = sz ∧ o + n * sz ≤ e.cells.length ∧ (n + m) * bytes ≤ maxCells ∧ ss.contains s = false ∧ hards vs = true then
    mkBuf t (sub e.cells o (n * sz) ++ vs) (n + m) sz (consumed s t u e)
  else .fail := rfl
theorem consumed_eq {s t : Site} {u : Ups} {e : Ent} : consumed s t u e = bif decide (s = t) then u else u ++ [(s, { e with alive := false, cells := [] })] := rfl
theorem appV_nils {t : Site} {sz bytes m : Nat} {vs : List AV} {u : Ups} {ss : List Site} : appV t sz bytes m vs u ss .nils = if m * bytes ≤ maxCells then mkBuf t vs m sz u else .fail := rfl
theorem appV_buf {t : Site} {sz bytes m : Nat} {vs : List AV} {u : Ups} {ss : List Site} {s : Site} {g o n z : Nat} : appV t sz bytes m vs u ss (.buf s g o n z) = (look s g).bindW (appB t sz bytes m vs u ss s o n z) ⟨⟩ := rfl
theorem appzV_int {t : Site} {sz bytes : Nat} {zero : List AV} {s : AV} {m : Int} : appzV t sz bytes zero s (.int .i64 m) = if 0 ≤ m ∧ m ≤ maxCells then appV t sz bytes m.toNat (rep zero m.toNat) [] [] s else .fail := rfl
theorem lenOV_arr {n : Nat} {x : AV} : lenOV (some n) x = .ret (.int .i64 n, []) := rfl
theorem lensV_str {l : List UInt8} : lensV (.str l) = .ret (.int .i64 l.length, []) := rfl
theorem lenOV_lst {cs : List AV} {n : Nat} : lenOV none (.lst cs n) = .ret (.int .i64 n, []) := rfl
theorem lenOV_buf {s : Site} {g off n z : Nat} : lenOV none (.buf s g off n z) = still1 s g (.int .i64 n) := rfl
theorem still1_eq {s : Site} {g : Nat} {x : AV} : still1 s g x = (look s g).bindW (fun _ => .ret (x, [])) ⟨⟩ := rfl
theorem lenOV_nils : lenOV none .nils = .ret (.int .i64 0, []) := rfl
theorem copyC_eq {sz m : Nat} {ys : List AV} {s : Site} {o n z : Nat} {e : Ent} : copyC sz m ys s o n z e =
  if e.rw = true ∧ z = sz ∧ o + n * sz ≤ e.cells.length ∧ flats ys = true then
    .ret (.int .i64 (Nat.min m n), [(s, { e with cells := over e.cells o (ys.take (Nat.min m n * sz)) })])
  else .fail := rfl
theorem copyV_buf {sz m : Nat} {ys : List AV} {s : Site} {g o n z : Nat} : copyV sz m ys (.buf s g o n z) = (look s g).bindW (copyC sz m ys s o n z) ⟨⟩ := rfl
theorem minV_int {k : IntKind} {a b : Int} : minV (.int k a) (.int k b) = .ret (.int k (if b < a then b else a), []) := by simp [minV, one]
theorem maxV_int {k : IntKind} {a b : Int} : maxV (.int k a) (.int k b) = .ret (.int k (if a < b then b else a), []) := by simp [maxV, one]
theorem r2sV_int {k : IntKind} {n : Int} : r2sV (.int k n) = .ret (.str (encS n), []) := rfl
theorem mkObj_eq {s : Site} {c : AV} {f : Nat → AV} : mkObj s c f = (mk s true [c]).bindW (fun p => .ret (f p.1, p.2)) ⟨⟩ := rfl
theorem rngV_str {s : Site} {l : List UInt8} : rngV s (.str l) = mkObj s (.itr l 0) (.it s) := rfl
theorem nxtV_it {s : Site} {g : Nat} : nxtV (.it s g) = (look s g).bindW (nxtC s) ⟨⟩ := rfl
theorem nxtC_itr {s : Site} {g : Nat} {al rw var : Bool} {l : List UInt8} {p : Nat} : nxtC s ⟨g, al, rw, var, [.itr l p]⟩ =
  if rw = true then (if p < l.length then .ret (.tup [.bool true, .int .i64 p, .int .i32 (decS l p).1], [(s, ⟨g, al, rw, var, [.itr l (p + (decS l p).2)]⟩)]) else .ret (.tup [.bool false], [])) else .fail := rfl
theorem mgetV_mpr {str : Bool} {zero : AV} {ok : Bool} {k : AV} {s : Site} {g : Nat} : mgetV str zero ok k (.mpr s g) = (look s g).bindW (mgetC str zero ok k) ⟨⟩ := rfl
theorem mgetV_nilm {str : Bool} {zero : AV} {ok : Bool} {k : AV} : mgetV str zero ok k .nilm = .ret (okV ok false zero, []) := rfl
theorem mgetC_mp {str : Bool} {zero : AV} {ok : Bool} {k : AV} {g : Nat} {al rw var : Bool} {ks vs : List AV} : mgetC str zero ok k ⟨g, al, rw, var, [.mp ks vs]⟩ = mgetR zero ok vs (findK str k ks 0) := rfl
theorem mgetR_some {zero : AV} {ok : Bool} {vs : List AV} {i : Nat} : mgetR zero ok vs (some (some i)) = optV ((vs[i]?).map (okV ok true)) := rfl
theorem mgetR_none {zero : AV} {ok : Bool} {vs : List AV} : mgetR zero ok vs (some none) = .ret (okV ok false zero, []) := rfl
theorem okV_true {b : Bool} {v : AV} : okV true b v = .tup [v, .bool b] := rfl
theorem okV_false {b : Bool} {v : AV} : okV false b v = v := rfl
theorem mputV_mpr {str agg : Bool} {k : AV} {xs : List AV} {s : Site} {g : Nat} : mputV str agg k (some xs) (.mpr s g) = (fix xs).bindW (fun p => (look s g).bindW (mputC str s k (mvalA agg p.1) p.2.1 p.2.2) ⟨⟩) ⟨⟩ := rfl
theorem mputC_mp {str : Bool} {s : Site} {k y : AV} {u : Ups} {ss : List Site} {g : Nat} {al rw var : Bool} {ks vs : List AV} : mputC str s k y u ss ⟨g, al, rw, var, [.mp ks vs]⟩ =
  if rw = true ∧ flatA k = true ∧ flatA y = true ∧ ss.contains s = false then mputR s k y u ⟨g, al, rw, var, [.mp ks vs]⟩ ks vs (findK str k ks 0) else .fail := rfl
theorem mputR_some {s : Site} {k y : AV} {u : Ups} {e : Ent} {ks vs : List AV} {i : Nat} : mputR s k y u e ks vs (some (some i)) = .ret (.und, u ++ [(s, { e with cells := [.mp (ks.set i k) (vs.set i y)] })]) := rfl
theorem mputR_none {s : Site} {k y : AV} {u : Ups} {e : Ent} {ks vs : List AV} : mputR s k y u e ks vs (some none) = .ret (.und, u ++ [(s, { e with cells := [.mp (ks ++ [k]) (vs ++ [y])] })]) := rfl
theorem isAggA_agg {cs : List AV} : isAggA (.agg cs) = true := rfl
theorem isAggA_int {k : IntKind} {n : Int} : isAggA (.int k n) = false := rfl
theorem isAggA_bool {b : Bool} : isAggA (.bool b) = false := rfl
theorem isAggA_str {l : List UInt8} : isAggA (.str l) = false := rfl
theorem isAggA_buf {s : Site} {g o n z : Nat} : isAggA (.buf s g o n z) = false := rfl
theorem isAggA_lst {cs : List AV} {n : Nat} : isAggA (.lst cs n) = false := rfl
theorem isAggA_nils : isAggA .nils = false := rfl
theorem mvalA_true {ys : List AV} : mvalA true ys = .agg ys := rfl
theorem mvalA_false {y : AV} : mvalA false [y] = y := rfl
theorem flatA_agg {cs : List AV} : flatA (.agg cs) = flats cs := rfl
theorem flatA_int {k : IntKind} {n : Int} : flatA (.int k n) = true := rfl
theorem flatA_bool {b : Bool} : flatA (.bool b) = true := rfl
theorem flatA_str {l : List UInt8} : flatA (.str l) = true := rfl
theorem flatA_lst {cs : List AV} {n : Nat} : flatA (.lst cs n) = true := rfl
theorem flatA_nils : flatA .nils = true := rfl
theorem mdelV_mpr {str : Bool} {k : AV} {s : Site} {g : Nat} : mdelV str k (.mpr s g) = (look s g).bindW (mdelC str s k) ⟨⟩ := rfl
theorem mdelV_nilm {str : Bool} {k : AV} : mdelV str k .nilm = .ret (.tup [], []) := rfl
theorem mdelC_mp {str : Bool} {s : Site} {k : AV} {g : Nat} {al rw var : Bool} {ks vs : List AV} : mdelC str s k ⟨g, al, rw, var, [.mp ks vs]⟩ =
  if rw = true then mdelR s ⟨g, al, rw, var, [.mp ks vs]⟩ ks vs (findK str k ks 0) else .fail := rfl
theorem mdelR_some {s : Site} {e : Ent} {ks vs : List AV} {i : Nat} : mdelR s e ks vs (some (some i)) = .ret (.tup [], [(s, { e with cells := [.mp (ks.eraseIdx i) (vs.eraseIdx i)] })]) := rfl
theorem mdelR_none {s : Site} {e : Ent} {ks vs : List AV} : mdelR s e ks vs (some none) = .ret (.tup [], []) := rfl
theorem mlenV_mpr {s : Site} {g : Nat} : mlenV (.mpr s g) = (look s g).bindW mlenC ⟨⟩ := rfl
theorem mlenV_nilm : mlenV .nilm = .ret (.int .i64 0, []) := rfl
theorem mlenC_mp {g : Nat} {al rw var : Bool} {ks vs : List AV} : mlenC ⟨g, al, rw, var, [.mp ks vs]⟩ = .ret (.int .i64 ks.length, []) := rfl
theorem capV_nils : capV .nils = .ret (.int .i64 0, []) := rfl
section
variable {k : IntKind} {a b : Int}
def iand (k : IntKind) (a b : Int) : Int := k.wrap (BitVec.ofInt k.bits a &&& BitVec.ofInt k.bits b).toNat
def ior (k : IntKind) (a b : Int) : Int := k.wrap (BitVec.ofInt k.bits a ||| BitVec.ofInt k.bits b).toNat
def ixor (k : IntKind) (a b : Int) : Int := k.wrap (BitVec.ofInt k.bits a ^^^ BitVec.ofInt k.bits b).toNat
def iandn (k : IntKind) (a b : Int) : Int := k.wrap (BitVec.ofInt k.bits a &&& ~~~ BitVec.ofInt k.bits b).toNat
def inot (k : IntKind) (n : Int) : Int := k.wrap (BitVec.ofInt k.bits (if k.signed then -1 else k.max) ^^^ BitVec.ofInt k.bits n).toNat
def ishl (k : IntKind) (a b : Int) : Int := k.wrap (a * 2 ^ (Nat.min b.toNat k.bits))
def ishr (k : IntKind) (a b : Int) : Int := a.fdiv (2 ^ (Nat.min b.toNat k.bits))
theorem bin_add : binAV .add (.int k a) (.int k b) = some (.int k (k.wrap (a + b))) := by simp [binAV, intBin]
theorem bin_sub : binAV .sub (.int k a) (.int k b) = some (.int k (k.wrap (a - b))) := by simp [binAV, intBin]
theorem bin_mul : binAV .mul (.int k a) (.int k b) = some (.int k (k.wrap (a * b))) := by simp [binAV, intBin]
theorem bin_quo : binAV .quo (.int k a) (.int k b) = if b = 0 then none else some (.int k (k.wrap (a.tdiv b))) := by simp [binAV, intBin]
theorem bin_rem : binAV .rem (.int k a) (.int k b) = if b = 0 then none else some (.int k (a.tmod b)) := by simp [binAV, intBin]
theorem bin_and : binAV .and (.int k a) (.int k b) = some (.int k (iand k a b)) := by simp [binAV, intBin, iand]
theorem bin_or : binAV .or (.int k a) (.int k b) = some (.int k (ior k a b)) := by simp [binAV, intBin, ior]
theorem bin_xor : binAV .xor (.int k a) (.int k b) = some (.int k (ixor k a b)) := by simp [binAV, intBin, ixor]
theorem bin_andNot : binAV .andNot (.int k a) (.int k b) = some (.int k (iandn k a b)) := by simp [binAV, intBin, iandn]
theorem bin_eql : binAV .eql (.int k a) (.int k b) = some (.bool (a == b)) := by simp [binAV, intBin]
theorem bin_neq : binAV .neq (.int k a) (.int k b) = some (.bool (a != b)) := by simp [binAV, intBin]
theorem bin_lss : binAV .lss (.int k a) (.int k b) = some (.bool (decide (a < b))) := by simp [binAV, intBin]
theorem bin_leq : binAV .leq (.int k a) (.int k b) = some (.bool (decide (a ≤ b))) := by simp [binAV, intBin]
theorem bin_gtr : binAV .gtr (.int k a) (.int k b) = some (.bool (decide (b < a))) := by simp [binAV, intBin]
theorem bin_geq : binAV .geq (.int k a) (.int k b) = some (.bool (decide (b ≤ a))) := by simp [binAV, intBin]
theorem bin_shl {k' : IntKind} (h : 0 ≤ b) : binAV .shl (.int k a) (.int k' b) = some (.int k (ishl k a b)) := by
  have : ¬ b < 0 := by omega
  simp [binAV, shiftBin, ishl, this]
theorem bin_shr {k' : IntKind} (h : 0 ≤ b) : binAV .shr (.int k a) (.int k' b) = some (.int k (ishr k a b)) := by
  have : ¬ b < 0 := by omega
  simp [binAV, shiftBin, ishr, this]
end
section
variable {x y : List UInt8}
theorem bin_sadd : binAV .add (.str x) (.str y) = if x.length + y.length ≤ 9223372036854775807 then some (.str (x ++ y)) else none := rfl
theorem bin_seql : binAV .eql (.str x) (.str y) = some (.bool (x == y)) := rfl
theorem bin_sneq : binAV .neq (.str x) (.str y) = some (.bool (!(x == y))) := rfl
theorem bin_slss : binAV .lss (.str x) (.str y) = some (.bool (Op.bytesLess x y)) := rfl
theorem bin_sleq : binAV .leq (.str x) (.str y) = some (.bool (Op.bytesLess x y || x == y)) := rfl
theorem bin_sgtr : binAV .gtr (.str x) (.str y) = some (.bool (!(Op.bytesLess x y || x == y))) := rfl
theorem bin_sgeq : binAV .geq (.str x) (.str y) = some (.bool (!(Op.bytesLess x y))) := rfl
end
theorem eqb_bool {neg a b : Bool} : eqbAV neg (.bool a) (.bool b) = some (.bool (bif neg then !(a == b) else a == b)) := rfl
theorem eqa_agg {ks : List Nat} {neg : Bool} {a b : List AV} : eqaV ks neg (.agg a) (.agg b) = optV ((eqCells ks a b).map fun e => .bool (bif neg then !e else e)) := rfl
theorem eqnV_eq {kd : Nat} {neg : Bool} {x y : AV} : eqnV kd neg x y = (nilV kd x).bindW (fun a => (nilV kd y).bindW (fun b => eqnB neg a b) ⟨⟩) ⟨⟩ := rfl
theorem nilV_nilp : nilV 0 .nilp = .ret true := rfl
theorem nilV_fp {cs : List AV} {o : Nat} : nilV 0 (.fp cs o) = .ret false := rfl
theorem nilV_ref {s : Site} {g o : Nat} : nilV 0 (.ref s g o) = (look s g).bindW (fun _ => .ret false) ⟨⟩ := rfl
theorem nilV_nils : nilV 1 .nils = .ret true := rfl
theorem nilV_nilm : nilV 2 .nilm = .ret true := rfl
theorem nilV_nilf : nilV 3 .nilf = .ret true := rfl
theorem nilV_clo {f : Nat} {cs : List AV} : nilV 3 (.clo f cs) = .ret false := rfl
theorem nilV_nili : nilV 4 .nili = .ret true := rfl
theorem nilV_ifc {t : Nat} {x : AV} : nilV 4 (.ifc t x) = .ret false := rfl
theorem eqnB_eq {neg a b : Bool} : eqnB neg a b = bif a || b then .ret (.bool (bif neg then !(a && b) else a && b), []) else .fail := rfl
theorem un_neg {k : IntKind} {n : Int} : unAV .neg (.int k n) = some (.int k (k.wrap (0 - n))) := rfl
theorem un_xor {k : IntKind} {n : Int} : unAV .xor (.int k n) = some (.int k (inot k n)) := rfl
theorem un_not {b : Bool} : unAV .not (.bool b) = some (.bool (!b)) := rfl
def someL {α β : Type} (x : Option α) (f : α → Option β) (_ : Wit f) : Option β := x.bind f
theorem someL_some {α β : Type} {x : α} {f : α → Option β} {w : Wit f} : someL (some x) f w = f x := rfl
theorem finish_eq {res : List LRes} {sl : List (Nat × AV)} {σ : Store} : finish res ⟨sl, σ⟩ = someL (resAll ⟨sl, σ⟩ res) (fun vs => LetA (collect σ 64 (ups σ ++ refsOfs vs) []) (fun acc => some (pack (rens (newName Site.r 0 acc) vs), renEnts σ (newName Site.r 0 acc) acc)) ⟨⟩) ⟨⟩ := by
  unfold finish someL LetA
  cases resAll ⟨sl, σ⟩ res <;> rfl
def consL {α : Type} (x : Option α) (y : Option (List α)) : Option (List α) := match x, y with | some v, some vs => some (v :: vs) | _, _ => none
theorem consL_some {α : Type} {v : α} {vs : List α} : consL (some v) (some vs) = some (v :: vs) := rfl
theorem resAll_nil {st : St} : resAll st [] = some [] := rfl
theorem resAll_cons {st : St} {r : LRes} {rs : List LRes} : resAll st (r :: rs) = consL (resOf st r) (resAll st rs) := by
  unfold consL; rw [resAll]; cases resOf st r <;> cases resAll st rs <;> rfl
theorem resOf_tmp {st : St} {t : Nat} : resOf st (.tmp t) = some (getL st.sl t) := rfl
theorem pack_one {v : AV} : pack [v] = v := rfl
theorem pack_two {v w : AV} : pack [v, w] = .tup [v, w] := rfl
theorem pack_three {v w x : AV} : pack [v, w, x] = .tup [v, w, x] := rfl
theorem pack_four {v w x y : AV} : pack [v, w, x, y] = .tup [v, w, x, y] := rfl
theorem X_loopL {E : Env} {fn : List LRes} {k : List It} {st : St} {l : List Nat} {x : LCode} : X E fn (.c (.loop l x) :: k) st = X E fn (.lp l x :: k) st := by rw [X_loop, X_lp]
theorem getR_nil {sl : List (Nat × AV)} {n : Nat} : getR sl [] n = getL sl n := rfl
theorem getR_cons {sl : List (Nat × AV)} {k n : Nat} {v : AV} {r : List (Nat × AV)} : getR sl ((k, v) :: r) n = SelW (k == n) v (getR sl r n) ⟨⟩ ⟨⟩ := by
  rw [getR, SelW_dec]; rfl
theorem getL_nil {n : Nat} : getL [] n = .junk := rfl
theorem getL_cons {k n : Nat} {v : AV} {r : List (Nat × AV)} : getL ((k, v) :: r) n = SelW (k == n) v (getL r n) ⟨⟩ ⟨⟩ := by
  rw [getL, SelW_dec]; rfl
theorem putL_nil {n : Nat} {v : AV} : putL [] n v = [(n, v)] := rfl
theorem putL_cons {k n : Nat} {u v : AV} {r : List (Nat × AV)} : putL ((k, u) :: r) n v = SelW (k == n) ((n, v) :: r) ((k, u) :: putL r n v) ⟨⟩ ⟨⟩ := by
  rw [putL, SelW_dec]; rfl
theorem getS_nil {s : Site} : getS [] s = none := rfl
theorem getS_cons {t s : Site} {e : Ent} {σ : Store} : getS ((t, e) :: σ) s = SelW (decide (t = s)) (some e) (getS σ s) ⟨⟩ ⟨⟩ := by
  rw [getS, SelW_dec]
theorem putS_nil {s : Site} {e : Ent} : putS [] s e = [(s, e)] := rfl
theorem putS_cons {t s : Site} {e e' : Ent} {σ : Store} : putS ((t, e') :: σ) s e = SelW (decide (t = s)) ((s, e) :: σ) ((t, e') :: putS σ s e) ⟨⟩ ⟨⟩ := by
  rw [putS, SelW_dec]
def collE (σ : Store) (n : Nat) (r acc : List (Site × Nat)) (s : Site) (g : Nat) : Option Ent → List (Site × Nat)
  | some e => SelW (e.alive && e.g == g) (collect σ n (r ++ refsOfs e.cells) (acc ++ [(s, g)])) (collect σ n r acc) ⟨⟩ ⟨⟩
  | none => collect σ n r acc
theorem collE_some {σ : Store} {n : Nat} {r acc : List (Site × Nat)} {s : Site} {g : Nat} {e : Ent} : collE σ n r acc s g (some e) = SelW (e.alive && e.g == g) (collect σ n (r ++ refsOfs e.cells) (acc ++ [(s, g)])) (collect σ n r acc) ⟨⟩ ⟨⟩ := rfl
theorem collE_none {σ : Store} {n : Nat} {r acc : List (Site × Nat)} {s : Site} {g : Nat} : collE σ n r acc s g none = collect σ n r acc := rfl
theorem collect_nil {σ : Store} {n : Nat} {acc : List (Site × Nat)} : collect σ (n + 1) [] acc = acc := rfl
theorem collect_cons {σ : Store} {n : Nat} {s : Site} {g : Nat} {r acc : List (Site × Nat)} : collect σ (n + 1) ((s, g) :: r) acc = SelW (acc.contains (s, g)) (collect σ n r acc) (collE σ n r acc s g (getS σ s)) ⟨⟩ ⟨⟩ := by
  rw [collect]
  unfold SelW
  cases acc.contains (s, g) with
  | true => simp
  | false =>
    simp only [Bool.false_eq_true, if_false, cond_false]
    cases getS σ s with
    | none => rfl
    | some e =>
      simp only [collE, SelW]
      have hb : (e.g == g) = decide (e.g = g) := by by_cases h2 : e.g = g <;> simp [h2]
      rw [hb]
      by_cases h1 : e.alive = true <;> by_cases h2 : e.g = g <;> simp [h1, h2]
def nameW (b : Site) (g : Nat) : Site → Site × Nat
  | .up x => (.up x, g)
  | _ => (b, 0)
theorem nameW_up {b x : Site} {g : Nat} : nameW b g (.up x) = (.up x, g) := rfl
theorem nameW_s {b : Site} {g n k : Nat} : nameW b g (.s n k) = (b, 0) := rfl
theorem nameW_r {b : Site} {g k : Nat} : nameW b g (.r k) = (b, 0) := rfl
theorem newName_nil {base : Nat → Site} {j g : Nat} {s : Site} : newName base j [] s g = none := rfl
theorem newName_cons {base : Nat → Site} {j g g' : Nat} {s s' : Site} {r : List (Site × Nat)} : newName base j ((s', g') :: r) s g = SelW (decide (s' = s) && g' == g) (some (nameW (base j) g s)) (newName base (j + 1) r s g) ⟨⟩ ⟨⟩ := by
  have hb : (g' == g) = decide (g' = g) := by by_cases h2 : g' = g <;> simp [h2]
  unfold SelW
  rw [hb]
  by_cases h1 : s' = s
  · by_cases h2 : g' = g
    · cases s <;> simp [newName, nameW, h1, h2]
    · cases s <;> simp [newName, nameW, h1, h2]
  · cases s <;> simp [newName, nameW, h1]
theorem ups_nil : ups [] = [] := rfl
theorem ups_up {s : Site} {e : Ent} {r : Store} : ups ((.up s, e) :: r) = SelW e.alive ((.up s, e.g) :: ups r) (ups r) ⟨⟩ ⟨⟩ := by
  rw [ups]; unfold SelW; cases e.alive <;> rfl
theorem ups_s {n k : Nat} {e : Ent} {r : Store} : ups ((.s n k, e) :: r) = ups r := rfl
theorem ups_r {k : Nat} {e : Ent} {r : Store} : ups ((.r k, e) :: r) = ups r := rfl
def renE (f : Site → Nat → Option (Site × Nat)) (x : Option Ent) (y : Option (Site × Nat)) (r : Store) : Store := match x, y with
  | some e, some (s', g') => (s', { e with g := g', cells := rens f e.cells }) :: r
  | _, _ => r
theorem renE_some {f : Site → Nat → Option (Site × Nat)} {e : Ent} {s : Site} {g : Nat} {r : Store} : renE f (some e) (some (s, g)) r = (s, { e with g := g, cells := rens f e.cells }) :: r := rfl
theorem renEnts_nil {σ : Store} {f : Site → Nat → Option (Site × Nat)} : renEnts σ f [] = [] := rfl
theorem renEnts_cons {σ : Store} {f : Site → Nat → Option (Site × Nat)} {s : Site} {g : Nat} {r : List (Site × Nat)} : renEnts σ f ((s, g) :: r) = renE f (getS σ s) (f s g) (renEnts σ f r) := by
  rw [renEnts]; unfold renE
  cases getS σ s <;> cases f s g <;> rfl
def renV (x : Option (Site × Nat)) (k : Site × Nat → AV) : AV := match x with | some p => k p | none => .junk
theorem renV_some {s : Site} {g : Nat} {k : Site × Nat → AV} : renV (some (s, g)) k = k (s, g) := rfl
theorem renV_none {k : Site × Nat → AV} : renV none k = .junk := rfl
theorem ren_ref {f : Site → Nat → Option (Site × Nat)} {s : Site} {g o : Nat} : ren f (.ref s g o) = renV (f s g) (fun p => .ref p.1 p.2 o) := by
  rw [ren]; unfold renV; cases f s g <;> rfl
theorem ren_buf {f : Site → Nat → Option (Site × Nat)} {s : Site} {g o n z : Nat} : ren f (.buf s g o n z) = renV (f s g) (fun p => .buf p.1 p.2 o n z) := by
  rw [ren]; unfold renV; cases f s g <;> rfl
theorem ren_it {f : Site → Nat → Option (Site × Nat)} {s : Site} {g : Nat} : ren f (.it s g) = renV (f s g) (fun p => .it p.1 p.2) := by
  rw [ren]; unfold renV; cases f s g <;> rfl
theorem ren_mpr {f : Site → Nat → Option (Site × Nat)} {s : Site} {g : Nat} : ren f (.mpr s g) = renV (f s g) (fun p => .mpr p.1 p.2) := by
  rw [ren]; unfold renV; cases f s g <;> rfl
theorem ren_agg {f : Site → Nat → Option (Site × Nat)} {cs : List AV} : ren f (.agg cs) = .agg (rens f cs) := by rw [ren]
theorem ren_tup {f : Site → Nat → Option (Site × Nat)} {cs : List AV} : ren f (.tup cs) = .tup (rens f cs) := by rw [ren]
theorem ren_clo {f : Site → Nat → Option (Site × Nat)} {g : Nat} {cs : List AV} : ren f (.clo g cs) = .clo g (rens f cs) := by rw [ren]
theorem ren_ifc {f : Site → Nat → Option (Site × Nat)} {t : Nat} {x : AV} : ren f (.ifc t x) = .ifc t (ren f x) := by rw [ren]
section
variable {f : Site → Nat → Option (Site × Nat)}
theorem ren_int {k : IntKind} {n : Int} : ren f (.int k n) = .int k n := rfl
theorem ren_bool {b : Bool} : ren f (.bool b) = .bool b := rfl
theorem ren_str {l : List UInt8} : ren f (.str l) = .str l := rfl
theorem ren_lst {cs : List AV} {n : Nat} : ren f (.lst cs n) = .lst cs n := rfl
theorem ren_fp {cs : List AV} {n : Nat} : ren f (.fp cs n) = .fp cs n := rfl
theorem ren_nilp : ren f .nilp = .nilp := rfl
theorem ren_nils : ren f .nils = .nils := rfl
theorem ren_nilf : ren f .nilf = .nilf := rfl
theorem ren_nili : ren f .nili = .nili := rfl
theorem ren_nilm : ren f .nilm = .nilm := rfl
theorem ren_junk : ren f .junk = .junk := rfl
theorem ren_und : ren f .und = .und := rfl
theorem ren_itr {l : List UInt8} {p : Nat} : ren f (.itr l p) = .itr l p := rfl
theorem ren_mp {ks vs : List AV} : ren f (.mp ks vs) = .mp ks vs := rfl
theorem rens_nil : rens f [] = [] := rfl
theorem rens_cons {c : AV} {cs : List AV} : rens f (c :: cs) = ren f c :: rens f cs := rfl
end
theorem gone_nil {b : Ups} : gone b [] = [] := rfl
def goneE (s : Site) (e : Ent) (r : Ups) : Option Ent → Ups
  | some _ => r
  | none => (s, { e with alive := false, cells := [] }) :: r
theorem goneE_some {s : Site} {e x : Ent} {r : Ups} : goneE s e r (some x) = r := rfl
theorem goneE_none {s : Site} {e : Ent} {r : Ups} : goneE s e r none = (s, { e with alive := false, cells := [] }) :: r := rfl
theorem gone_cons {b : Ups} {s : Site} {e : Ent} {r : List (Site × Ent)} : gone b ((s, e) :: r) = goneE s e (gone b r) (getS b s) := by
  rw [gone]; cases getS b s <;> rfl
theorem backName_up {d g : Nat} {gs : List (Nat × Nat)} {s : Site} : backName d gs (.up s) g = some (s, g) := rfl
def backN (d k g : Nat) : Option Nat → Option (Site × Nat)
  | some g' => SelW (g == 0) (some (.s d k, g')) none ⟨⟩ ⟨⟩
  | none => none
theorem backN_some {d k g g' : Nat} : backN d k g (some g') = SelW (g == 0) (some (.s d k, g')) none ⟨⟩ ⟨⟩ := rfl
theorem backName_r {d g k : Nat} {gs : List (Nat × Nat)} : backName d gs (.r k) g = backN d k g (gs.lookup k) := by
  rw [backName]
  cases gs.lookup k with
  | none => rfl
  | some x =>
    have hb : (g == 0) = decide (g = 0) := by by_cases h2 : g = 0 <;> simp [h2]
    simp only [backN, SelW, hb]; by_cases h : g = 0 <;> simp [h]
theorem backEnts_nil {d : Nat} {gs : List (Nat × Nat)} : backEnts d gs [] = [] := rfl
def backE (f : Site → Nat → Option (Site × Nat)) (e : Ent) (r : Ups) : Option (Site × Nat) → Ups
  | some p => (p.1, { e with g := p.2, cells := rens f e.cells }) :: r
  | none => r
theorem backE_some {f : Site → Nat → Option (Site × Nat)} {e : Ent} {r : Ups} {s : Site} {g : Nat} : backE f e r (some (s, g)) = (s, { e with g := g, cells := rens f e.cells }) :: r := rfl
theorem backEnts_cons {d : Nat} {gs : List (Nat × Nat)} {s : Site} {e : Ent} {r : Store} : backEnts d gs ((s, e) :: r) = backE (backName d gs) e (backEnts d gs r) (backName d gs s e.g) := by
  rw [backEnts]; cases backName d gs s e.g <;> rfl
def upN (g : Nat) (s : Site) : Option Ent → Option (Site × Nat)
  | some e => SelW (e.g == g) (some (.up s, g)) none ⟨⟩ ⟨⟩
  | none => none
theorem upN_some {g : Nat} {s : Site} {e : Ent} : upN g s (some e) = SelW (e.g == g) (some (.up s, g)) none ⟨⟩ ⟨⟩ := rfl
theorem upName_eq {es : List (Site × Ent)} {s : Site} {g : Nat} : upName es s g = upN g s (getS es s) := by
  unfold upName upN
  cases getS es s with
  | none => rfl
  | some e =>
    have hb : (e.g == g) = decide (e.g = g) := by by_cases h2 : e.g = g <;> simp [h2]
    simp only [SelW, hb]; by_cases h : e.g = g <;> simp [h]
theorem exitIt_blk {n m : Nat} {k : List It} : exitIt n (.blk m :: k) = SelW (m == n) (some k) (exitIt n k) ⟨⟩ ⟨⟩ := by
  rw [exitIt, SelW_dec]; rfl
theorem exitIt_c {n : Nat} {x : LCode} {k : List It} : exitIt n (.c x :: k) = exitIt n k := rfl
theorem exitIt_lp {n : Nat} {l : List Nat} {x : LCode} {k : List It} : exitIt n (.lp l x :: k) = exitIt n k := rfl
theorem exitIt_scp {n : Nat} {x : LCode} {k : List It} : exitIt n (.scp x :: k) = exitIt n k := rfl
theorem gotoL_c {n : Nat} {x : LCode} {k : List It} : gotoL n (.c x :: k) = gotoL n k := rfl
theorem gotoL_lp {n : Nat} {l : List Nat} {x : LCode} {k : List It} : gotoL n (.lp l x :: k) = gotoL n k := rfl
theorem gotoL_blk {n m : Nat} {k : List It} : gotoL n (.blk m :: k) = gotoL n k := rfl
def gotoS (n : Nat) (x : LCode) (k : List It) : Option LCode → Option (List It)
  | some r => some (.c r :: .scp x :: k)
  | none => gotoL n k
theorem gotoL_scp {n : Nat} {x : LCode} {k : List It} : gotoL n (.scp x :: k) = gotoS n x k (findL x n) := by
  rw [gotoL]; cases findL x n <;> rfl
theorem gotoS_some {n : Nat} {x r : LCode} {k : List It} : gotoS n x k (some r) = some (.c r :: .scp x :: k) := rfl
theorem gotoS_none {n : Nat} {x : LCode} {k : List It} : gotoS n x k none = gotoL n k := rfl
def findS (b : LCode) (l : Nat) : Option LCode → Option LCode
  | some r => some (.seq r b)
  | none => findL b l
theorem findL_seq {a b : LCode} {l : Nat} : findL (.seq a b) l = findS b l (findL a l) := by
  rw [findL]; cases findL a l <;> rfl
theorem findS_some {b r : LCode} {l : Nat} : findS b l (some r) = some (.seq r b) := rfl
theorem findS_none {b : LCode} {l : Nat} : findS b l none = findL b l := rfl
theorem findL_label {m l : Nat} : findL (.label m) l = SelW (m == l) (some .skip) none ⟨⟩ ⟨⟩ := by
  rw [findL, SelW_dec]; rfl
theorem findL_skip {l : Nat} : findL .skip l = none := rfl
theorem findL_ret {l : Nat} : findL .ret l = none := rfl
theorem findL_exit {l n : Nat} : findL (.exit n) l = none := rfl
theorem findL_reg {l : Nat} {o : List LOper} {p : List Nat} : findL (.reg o p) l = none := rfl
theorem findL_dreg {l : Nat} {o : List LOper} {q : List (Nat × Nat)} {p : List Nat} : findL (.dreg o q p) l = none := rfl
theorem findL_cond {l : Nat} {c : LO} {a b : LCode} : findL (.cond c a b) l = none := rfl
theorem findL_block {l n : Nat} {a : LCode} : findL (.block n a) l = none := rfl
theorem findL_loop {l : Nat} {v : List Nat} {a : LCode} : findL (.loop v a) l = none := rfl
theorem findL_scope {l : Nat} {a : LCode} : findL (.scope a) l = none := rfl
theorem findL_goto {l n : Nat} : findL (.goto n) l = none := rfl
theorem hard_int {k : IntKind} {n : Int} : hard (.int k n) = true := rfl
theorem cellsO_int {k : IntKind} {n : Int} : cellsO (.int k n) = some [.int k n] := rfl
theorem hard_bool {b : Bool} : hard (.bool b) = true := rfl
theorem cellsO_bool {b : Bool} : cellsO (.bool b) = some [.bool b] := rfl
theorem hard_str {l : List UInt8} : hard (.str l) = true := rfl
theorem cellsO_str {l : List UInt8} : cellsO (.str l) = some [.str l] := rfl
theorem hard_nilp  : hard .nilp = true := rfl
theorem cellsO_nilp  : cellsO .nilp = some [.nilp] := rfl
theorem hard_nils  : hard .nils = true := rfl
theorem cellsO_nils  : cellsO .nils = some [.nils] := rfl
theorem hard_nilf  : hard .nilf = true := rfl
theorem cellsO_nilf  : cellsO .nilf = some [.nilf] := rfl
theorem hard_nili  : hard .nili = true := rfl
theorem cellsO_nili  : cellsO .nili = some [.nili] := rfl
theorem hard_nilm  : hard .nilm = true := rfl
theorem cellsO_nilm  : cellsO .nilm = some [.nilm] := rfl
theorem hard_lst {cs : List AV} {n : Nat} : hard (.lst cs n) = true := rfl
theorem cellsO_lst {cs : List AV} {n : Nat} : cellsO (.lst cs n) = some [.lst cs n] := rfl
theorem hard_fp {cs : List AV} {n : Nat} : hard (.fp cs n) = true := rfl
theorem cellsO_fp {cs : List AV} {n : Nat} : cellsO (.fp cs n) = some [.fp cs n] := rfl
theorem hard_ref {s : Site} {g o : Nat} : hard (.ref s g o) = true := rfl
theorem cellsO_ref {s : Site} {g o : Nat} : cellsO (.ref s g o) = some [.ref s g o] := rfl
theorem hard_buf {s : Site} {g o n z : Nat} : hard (.buf s g o n z) = true := rfl
theorem cellsO_buf {s : Site} {g o n z : Nat} : cellsO (.buf s g o n z) = some [.buf s g o n z] := rfl
theorem hard_clo {f : Nat} {cs : List AV} : hard (.clo f cs) = true := rfl
theorem cellsO_clo {f : Nat} {cs : List AV} : cellsO (.clo f cs) = some [.clo f cs] := rfl
theorem hard_ifc {t : Nat} {x : AV} : hard (.ifc t x) = true := rfl
theorem cellsO_ifc {t : Nat} {x : AV} : cellsO (.ifc t x) = some [.ifc t x] := rfl
theorem hard_mpr {s : Site} {g : Nat} : hard (.mpr s g) = true := rfl
theorem cellsO_mpr {s : Site} {g : Nat} : cellsO (.mpr s g) = some [.mpr s g] := rfl
theorem cellsO_agg {cs : List AV} : cellsO (.agg cs) = some cs := rfl
theorem calmAll_nil {ts : List (List Site × List Site)} : calmAll ts [] = true := rfl
theorem calmAll_cons {ts : List (List Site × List Site)} {i j : Nat} {r : List (Nat × Nat)} : calmAll ts ((i, j) :: r) = (calm (ts.getD i ([], [])) (ts.getD j ([], [])) && calmAll ts r) := rfl
theorem calm_eq {a b c d : List Site} : calm (a, b) (c, d) = (!(meets b c) && !(meets b d) && !(meets a d)) := rfl
theorem meets_nil0 {t : List Site} : meets [] t = false := rfl
theorem meets_cons {s : Site} {ss t : List Site} : meets (s :: ss) t = (t.contains s || meets ss t) := rfl
theorem fix_sel {cs : List AV} : fix cs = SelW (flats cs) (.ret (cs, [], [])) ((views cs).bindW (fun p => (still p.2).bindW (fun u => .ret (p.1, u, p.2)) ⟨⟩) ⟨⟩) ⟨⟩ ⟨⟩ := by
  unfold fix SelW
  cases flats cs <;> rfl
theorem view_aggS {cs : List AV} : view (.agg cs) = SelW (flats cs) (.ret (.agg cs, [])) ((views cs).bindW (fun p => .ret (.agg p.1, p.2)) ⟨⟩) ⟨⟩ ⟨⟩ := by
  rw [view]; unfold SelW
  cases flats cs <;> rfl
attribute [go_sem] step_r2s r2sV_int step_rng step_nxt step_mkmap step_mget step_mput step_mdel step_mlen mkObj_eq rngV_str nxtV_it nxtC_itr mgetV_mpr mgetV_nilm mgetC_mp mgetR_some mgetR_none okV_true okV_false mputV_mpr mputC_mp mputR_some mputR_none isAggA_agg isAggA_int isAggA_bool isAggA_str isAggA_buf isAggA_lst isAggA_nils mvalA_true mvalA_false flatA_agg flatA_int flatA_bool flatA_str flatA_lst flatA_nils mdelV_mpr mdelV_nilm mdelC_mp mdelR_some mdelR_none mlenV_mpr mlenV_nilm mlenC_mp ren_it ren_mpr ren_itr ren_mp hard_mpr cellsO_mpr
  step_mv step_nil step_pick step_new step_box step_build step_bslice step_ld step_st step_nilck step_bin step_un step_cvi step_s2s step_s2b step_b2s step_sls step_lens step_b2b step_mkif step_mkfn step_mks step_sl step_fa step_fld step_ia step_ix step_s2a step_ext step_call step_app step_appz step_len step_copy step_min step_max step_cap step_stop
  evR_t evR_k evR_g evR_f ev_t ev_k dstN_some dstN_none gdV_bool gdV_und gdB_bool gdB_und isB_bool outO_some run_ret run_get bind_ret reads_ret reads_get run_bindG reads_bindG bind_bindW bindW_bindW bindW_ret run_bindW reads_bindW one_eq look_eq lookE_some mk_eq mkE_some mkE_none mkRef_eq mkBuf_eq
  view1_int view1_bool view1_str view1_lst view1_fp view1_clo view1_ifc view1_nilp view1_nilf view1_nili view1_nilm view1.eq_1 view1.eq_2 view1.eq_3 view_int view_bool view_str view_lst view_fp view_ifc view_nils view_nilp view_nilf view_nili view_nilm view_buf view_ref view_aggS view_clo0 views_nil views_cons viewB_eq viewR_eq stillE_some still_nil still_cons fix_sel cellsStr.eq_1 cellsAt.eq_1 cellsAt.eq_2 cellsAt.eq_3 cellsAt.eq_4 cellsB_eq genE_some genE_none callAV_eq backV_some optV_some pickV_bool aggV_eq buildV_some bsliceV_some ldC_none ldC_some ldV_fp0 ldV_fp1 ldV_ref0 ldV_ref1
  stC_eq stV_ref nilckV_ref nilckV_fp cviV_int s2sV_str s2bV_str strV_some b2bV_buf mksV_int loV_some loV_none hiV_some hiV_none lenV_arr lenV_str lenV_lst lenV_buf lenV_nils slB_ref slR_eq slB_fp slsV_str b2sV_lst b2sV_buf b2sV_nils slB_lst slB_buf slB_nils slV_int faV_ref faV_fp fldV_none fldV_some iaV_ref iaV_fp iaV_lst iaV_buf byteV_some ixV_agg ixV_str
  s2aV_lst s2aV_buf extV_tup callV_clo appB_eq consumed_eq appV_nils appV_buf appzV_int lenOV_arr lensV_str lenOV_lst lenOV_buf lenOV_nils still1_eq copyC_eq copyV_buf minV_int maxV_int capV_nils
  bin_add bin_sub bin_mul bin_quo bin_rem bin_and bin_or bin_xor bin_andNot bin_eql bin_neq bin_lss bin_leq bin_gtr bin_geq bin_shl bin_shr bin_sadd bin_seql bin_sneq bin_slss bin_sleq bin_sgtr bin_sgeq step_eqb step_eqa step_eqn eqb_bool eqa_agg eqnV_eq nilV_nilp nilV_fp nilV_ref nilV_nils nilV_nilm nilV_nilf nilV_clo nilV_nili nilV_ifc eqnB_eq un_neg un_xor un_not
  finish_eq resOf_tmp pack_one pack_two pack_three pack_four
  X_seq X_condB X_ret X_skip X_regY X_regZ X_regZ0 calmAll_nil calmAll_cons calm_eq meets_nil0 meets_cons List.getD_cons_zero List.getD_cons_succ X_block X_blk X_loopL X_exitG exitIt_blk exitIt_c exitIt_lp X_scp X_scope X_label X_gotoG exitIt_scp gotoL_c gotoL_lp gotoL_blk gotoL_scp gotoS_some gotoS_none findL_seq findS_some findS_none findL_label findL_skip findL_ret findL_exit findL_reg findL_dreg findL_cond findL_block findL_loop findL_scope findL_goto SelW_true SelW_false X_nil Y_nil Y_op Y_guard Z_nil Z_op Z_guard Gd_true Br_true Br_false Br_not BindR_some LetA_eq someL_some consL_some resAll_nil resAll_cons okO_some valO_some upsO_some putD_some putD_none params getR_nil getR_cons getL_nil getL_cons putL_nil putL_cons putAll putS_nil putS_cons getS_nil getS_cons keepL collE_some collE_none collect_nil collect_cons ups_nil ups_up ups_s ups_r refsOfs refsOf renE_some renEnts_nil renEnts_cons nameW_up nameW_s nameW_r newName_nil newName_cons rens_nil rens_cons renV_some renV_none ren_ref ren_buf ren_agg ren_tup ren_clo ren_ifc ren_int ren_bool ren_str ren_lst ren_fp ren_nilp ren_nils ren_nilf ren_nili ren_nilm ren_junk ren_und flat flats hard_int cellsO_int hard_bool cellsO_bool hard_str cellsO_str hard_nilp cellsO_nilp hard_nils cellsO_nils hard_nilf cellsO_nilf hard_nili cellsO_nili hard_nilm cellsO_nilm hard_lst cellsO_lst hard_fp cellsO_fp hard_ref cellsO_ref hard_buf cellsO_buf hard_clo cellsO_clo hard_ifc cellsO_ifc cellsO_agg hards leads leadss  mkifV boxV_some fillC_someG
  passing_nil passing_cons gather_nil gather_cons backGens_nil backGens_r backGens_up backName_up backN_some backName_r backEnts_nil backE_some backEnts_cons gone_nil goneE_some goneE_none gone_cons tidy tidyE distinct backU_eq fresh_eq upEnts upN_some upName_eq anyLeads anyIn fillO rep bytesOf
  if_true if_false Nat.add_zero Nat.zero_add and_self and_true true_and cond_true cond_false Site.s.injEq Site.r.injEq Site.up.injEq List.append_nil List.nil_append List.cons_append List.contains_nil List.contains_cons List.map_nil List.map_cons List.length_nil List.length_cons List.lookup_cons Option.map_some Option.map_none Bool.or_false Bool.false_or Bool.or_true Bool.true_or Bool.not_true Bool.not_false beq_self_eq_true List.flatMap_nil List.flatMap_cons Option.isSome_some Option.isSome_none BEq.rfl eq_self Bool.and_true Bool.true_and Bool.and_false Bool.false_and Nat.le_refl decide_true decide_false beq_true beq_false List.getElem?_cons_zero List.getElem?_cons_succ List.getElem?_nil
end Cod
