/- . -/
import Derived.Test.YtocpacdnjbjjmaaGreatDoorProg
import Derived.Test.YtocpacdnjbjjmaaGreatDoorS15
namespace Go.Proofs.YtocpacdnjbjjmaaGreatDoor
open Go Tw Go.Proofs.Tryz
set_option maxRecDepth 100000
instance ty3:Ty prog 3 false 1:=⟨kr,kr⟩
instance b1F:TyI prog 3 .i64:=⟨kr⟩
instance ty4:Ty prog 4 false 1:=⟨kr,kr⟩
instance ty5:Ty prog 5 false 1:=⟨kr,kr⟩
instance a9k:TyZ prog 5 [.int .u8 0]:=⟨kr,kr⟩
instance b1E:TyI prog 5 .u8:=⟨kr⟩
instance ty9:Ty prog 9 false 1:=⟨kr,kr⟩
instance a9q:TyT prog 9:=⟨kr⟩
instance b1C:TyL prog 22 37 1 24:=⟨kr,kr⟩
instance b0j:TyP prog 24 84:=⟨kr⟩
instance b2Z:Ty prog 25 false 1:=⟨kr,kr⟩
instance b1G:TyI prog 25 .i64:=⟨kr⟩
instance b2U:Ty prog 28 false 1:=⟨kr,kr⟩
instance b0i:TyP prog 28 91:=⟨kr⟩
instance b2R:Ty prog 30 false 1:=⟨kr,kr⟩
instance b1y:TyL prog 30 120 2 32:=⟨kr,kr⟩
instance b0g:TyP prog 32 59:=⟨kr⟩
instance b2O:Ty prog 35 false 1:=⟨kr,kr⟩
instance b2M:Ty prog 37 false 1:=⟨kr,kr⟩
instance b1x:TyL prog 37 3 1 8:=⟨kr,kr⟩
instance b2J:Ty prog 40 false 1:=⟨kr,kr⟩
instance b1w:TyL prog 40 107 3 32:=⟨kr,kr⟩
instance b2I:Ty prog 44 true 1:=⟨kr,kr⟩
instance a9A:TyS prog 44 [(30,0,1)]:=⟨kr⟩
instance b2G:Ty prog 48 true 32:=⟨kr,kr⟩
instance a9l:TyZ prog 48 [hv J7]:=⟨kr,kr⟩
instance b2c:TyA prog 48 32 5 1:=⟨kr,kr⟩
instance b2E:Ty prog 50 true 35:=⟨kr,kr⟩
instance a9y:TyS prog 50 [(9,0,1),(3,1,1),(3,2,1),(48,3,32)]:=⟨kr⟩
instance b2D:Ty prog 53 false 1:=⟨kr,kr⟩
instance b2C:Ty prog 54 false 1:=⟨kr,kr⟩
instance b1u:TyL prog 54 30 1 24:=⟨kr,kr⟩
instance b2B:Ty prog 55 false 1:=⟨kr,kr⟩
instance b1t:TyL prog 55 63 3 40:=⟨kr,kr⟩
instance b2A:Ty prog 56 false 1:=⟨kr,kr⟩
instance b1s:TyL prog 56 190 15 168:=⟨kr,kr⟩
instance b2z:Ty prog 57 false 1:=⟨kr,kr⟩
instance b1r:TyL prog 57 9 1 16:=⟨kr,kr⟩
instance a9x:TyS prog 59 [(9,0,1),(9,1,1),(53,2,1),(54,3,1),(55,4,1),(56,5,1),(57,6,1),(4,7,1)]:=⟨kr⟩
instance b2y:Ty prog 63 true 3:=⟨kr,kr⟩
instance a9w:TyS prog 63 [(3,0,1),(3,1,1),(57,2,1)]:=⟨kr⟩
instance b1q:TyL prog 67 70 5 56:=⟨kr,kr⟩
instance b2x:Ty prog 68 false 1:=⟨kr,kr⟩
instance b1p:TyL prog 68 4 1 1:=⟨kr,kr⟩
instance b2w:Ty prog 70 true 5:=⟨kr,kr⟩
instance a9v:TyS prog 70 [(3,0,1),(3,1,1),(3,2,1),(3,3,1),(68,4,1)]:=⟨kr⟩
instance b2v:Ty prog 74 false 1:=⟨kr,kr⟩
instance b1o:TyL prog 74 5 1 1:=⟨kr,kr⟩
instance b2u:Ty prog 77 false 1:=⟨kr,kr⟩
instance b0f:TyP prog 77 148:=⟨kr⟩
instance b2t:Ty prog 81 false 1:=⟨kr,kr⟩
instance b1n:TyL prog 81 44 1 24:=⟨kr,kr⟩
instance b2s:Ty prog 82 false 1:=⟨kr,kr⟩
instance b1m:TyL prog 82 50 35 64:=⟨kr,kr⟩
instance a9u:TyS prog 84 [(9,0,1),(9,1,1),(77,2,1),(81,3,1),(82,4,1),(56,5,1),(57,6,1),(4,7,1)]:=⟨kr⟩
instance b2r:Ty prog 88 false 1:=⟨kr,kr⟩
instance b2q:Ty prog 89 false 1:=⟨kr,kr⟩
instance b1l:TyL prog 89 125 2 24:=⟨kr,kr⟩
instance a9t:TyS prog 91 [(3,0,1),(88,1,1),(89,2,1),(4,3,1),(4,4,1),(3,5,1),(3,6,1)]:=⟨kr⟩
instance b2o:Ty prog 92 false 1:=⟨kr,kr⟩
instance b1D:TyI prog 92 .u64:=⟨kr⟩
instance b2n:Ty prog 94 true 4:=⟨kr,kr⟩
instance b2b:TyA prog 94 4 92 1:=⟨kr,kr⟩
instance b2m:Ty prog 96 true 7:=⟨kr,kr⟩
instance a9s:TyS prog 96 [(9,0,1),(94,1,4),(9,5,1),(9,6,1)]:=⟨kr⟩
instance b2l:Ty prog 98 true 12:=⟨kr,kr⟩
instance a9r:TyS prog 98 [(3,0,1),(9,1,1),(9,2,1),(96,3,7),(3,10,1),(3,11,1)]:=⟨kr⟩
instance b2k:Ty prog 99 false 1:=⟨kr,kr⟩
instance b1k:TyL prog 99 48 32 32:=⟨kr,kr⟩
instance b3t:Ty prog 101 true 3:=⟨kr,kr⟩
instance a9X:TyS prog 101 [(3,0,1),(3,1,1),(99,2,1)]:=⟨kr⟩
instance b3s:Ty prog 103 true 9:=⟨kr,kr⟩
instance a9W:TyS prog 103 [(3,0,1),(30,1,1),(30,2,1),(101,3,3),(101,6,3)]:=⟨kr⟩
instance b3r:Ty prog 105 true 100:=⟨kr,kr⟩
instance a9V:TyS prog 105 [(3,0,1),(9,1,1),(9,2,1),(9,3,1),(9,4,1),(9,5,1),(3,6,1),(50,7,35),(48,42,32),(98,74,12),(9,86,1),(3,87,1),(101,88,3),(103,91,9)]:=⟨kr⟩
instance b3q:Ty prog 107 true 3:=⟨kr,kr⟩
instance a9U:TyS prog 107 [(25,0,1),(3,1,1),(9,2,1)]:=⟨kr⟩
instance a9T:TyS prog 114 [(57,0,1),(89,1,1),(4,2,1),(4,3,1),(3,4,1),(3,5,1)]:=⟨kr⟩
instance b3p:Ty prog 115 true 4:=⟨kr,kr⟩
instance b2j:TyA prog 115 4 9 1:=⟨kr,kr⟩
instance b3o:Ty prog 116 false 1:=⟨kr,kr⟩
instance b1I:TyI prog 116 .u64:=⟨kr⟩
instance b3n:Ty prog 120 true 2:=⟨kr,kr⟩
instance a9S:TyS prog 120 [(9,0,1),(9,1,1)]:=⟨kr⟩
instance b3m:Ty prog 125 true 2:=⟨kr,kr⟩
instance a9R:TyS prog 125 [(3,0,1),(9,1,1)]:=⟨kr⟩
instance b3l:Ty prog 134 true 3:=⟨kr,kr⟩
instance a9Q:TyS prog 134 [(3,0,1),(3,1,1),(3,2,1)]:=⟨kr⟩
instance b3k:Ty prog 137 false 1:=⟨kr,kr⟩
instance b0m:TyP prog 137 139:=⟨kr⟩
instance a9P:TyS prog 139 [(137,0,1),(74,1,1)]:=⟨kr⟩
instance a9O:TyS prog 148 [(28,0,1),(134,1,3),(9,4,1),(4,5,1)]:=⟨kr⟩
instance b3j:Ty prog 151 false 1:=⟨kr,kr⟩
instance b0l:TyP prog 151 201:=⟨kr⟩
instance b3i:Ty prog 155 false 1:=⟨kr,kr⟩
instance b3h:Ty prog 161 true 4:=⟨kr,kr⟩
instance a9N:TyS prog 161 [(30,0,1),(107,1,3)]:=⟨kr⟩
instance a9M:TyS prog 164 [(35,0,1),(134,1,3),(9,4,1),(4,5,1)]:=⟨kr⟩
instance a9L:TyS prog 169 [(9,0,1),(4,1,1)]:=⟨kr⟩
instance b3g:Ty prog 171 true 3:=⟨kr,kr⟩
instance a9K:TyS prog 171 [(30,0,1),(40,1,1),(56,2,1)]:=⟨kr⟩
instance b3f:Ty prog 190 true 15:=⟨kr,kr⟩
instance a9J:TyS prog 190 [(3,0,1),(3,1,1),(98,2,12),(9,14,1)]:=⟨kr⟩
instance a9I:TyS prog 201 [(9,0,1),(4,1,1)]:=⟨kr⟩
instance b3e:Ty prog 216 true 4:=⟨kr,kr⟩
instance a9H:TyS prog 216 [(3,0,1),(9,1,1),(9,2,1),(9,3,1)]:=⟨kr⟩
instance b3d:Ty prog 222 false 1:=⟨kr,kr⟩
instance b1H:TyI prog 222 .u32:=⟨kr⟩
instance b1B:TyL prog 225 155 1 8:=⟨kr,kr⟩
instance b3c:Ty prog 226 true 64:=⟨kr,kr⟩
instance b2i:TyA prog 226 64 5 1:=⟨kr,kr⟩
instance b2h:TyA prog 227 3 3 1:=⟨kr,kr⟩
instance b0k:TyP prog 229 311:=⟨kr⟩
instance b3b:Ty prog 232 false 1:=⟨kr,kr⟩
instance b1A:TyL prog 232 222 1 4:=⟨kr,kr⟩
instance b3a:Ty prog 234 true 2:=⟨kr,kr⟩
instance a9G:TyS prog 234 [(232,0,1),(232,1,1)]:=⟨kr⟩
instance b2Y:Ty prog 256 true 3:=⟨kr,kr⟩
instance a9F:TyS prog 256 [(44,0,1),(3,1,1),(3,2,1)]:=⟨kr⟩
instance b2X:Ty prog 263 false 1:=⟨kr,kr⟩
instance b2W:Ty prog 267 false 1:=⟨kr,kr⟩
instance b1z:TyL prog 267 289 34 48:=⟨kr,kr⟩
instance b2V:Ty prog 269 true 5:=⟨kr,kr⟩
instance a9E:TyS prog 269 [(9,0,1),(9,1,1),(3,2,1),(4,3,1),(267,4,1)]:=⟨kr⟩
instance b2T:Ty prog 289 true 34:=⟨kr,kr⟩
instance a9D:TyS prog 289 [(3,0,1),(3,1,1),(48,2,32)]:=⟨kr⟩
instance b2Q:Ty prog 306 true 4:=⟨kr,kr⟩
instance a9p:TyZ prog 306 [.int .u8 0,.int .u8 0,.int .u8 0,.int .u8 0]:=⟨kr,kr⟩
instance b2g:TyA prog 306 4 5 1:=⟨kr,kr⟩
instance a9C:TyS prog 311 [(226,0,64)]:=⟨kr⟩
instance b0h:TyP prog 312 350:=⟨kr⟩
instance b2P:Ty prog 317 true 8:=⟨kr,kr⟩
instance a9o:TyZ prog 317 [.int .u32 0,.int .u32 0,.int .u32 0,.int .u32 0,.int .u32 0,.int .u32 0,.int .u32 0,.int .u32 0]:=⟨kr,kr⟩
instance b2f:TyA prog 317 8 222 1:=⟨kr,kr⟩
instance b2N:Ty prog 350 true 74:=⟨kr,kr⟩
instance a9B:TyS prog 350 [(317,0,8),(226,8,64),(3,72,1),(4,73,1)]:=⟨kr⟩
instance a9n:TyZ prog 352 [.int .u8 0,.int .u8 0,.int .u8 0,.int .u8 0,.int .u8 0,.int .u8 0,.int .u8 0,.int .u8 0]:=⟨kr,kr⟩
instance b2e:TyA prog 352 8 5 1:=⟨kr,kr⟩
instance a9m:TyZ prog 354 [.int .u32 0,.int .u32 0,.int .u32 0,.int .u32 0,.int .u32 0,.int .u32 0,.int .u32 0,.int .u32 0,.int .u32 0,.int .u32 0,.int .u32 0,.int .u32 0,.int .u32 0,.int .u32 0,.int .u32 0,.int .u32 0,.int .u32 0,.int .u32 0,.int .u32 0,.int .u32 0,.int .u32 0,.int .u32 0,.int .u32 0,.int .u32 0,.int .u32 0,.int .u32 0,.int .u32 0,.int .u32 0,.int .u32 0,.int .u32 0,.int .u32 0,.int .u32 0,.int .u32 0,.int .u32 0,.int .u32 0,.int .u32 0,.int .u32 0,.int .u32 0,.int .u32 0,.int .u32 0,.int .u32 0,.int .u32 0,.int .u32 0,.int .u32 0,.int .u32 0,.int .u32 0,.int .u32 0,.int .u32 0,.int .u32 0,.int .u32 0,.int .u32 0,.int .u32 0,.int .u32 0,.int .u32 0,.int .u32 0,.int .u32 0,.int .u32 0,.int .u32 0,.int .u32 0,.int .u32 0,.int .u32 0,.int .u32 0,.int .u32 0,.int .u32 0]:=⟨kr,kr⟩
instance b2d:TyA prog 354 64 222 1:=⟨kr,kr⟩
instance b2L:Ty prog 390 false 1:=⟨kr,kr⟩
instance b1v:TyL prog 421 390 1 8:=⟨kr,kr⟩
instance b2H:Ty prog 440 true 3:=⟨kr,kr⟩
instance a9z:TyS prog 440 [(4,0,1),(3,1,1),(3,2,1)]:=⟨kr⟩
instance b9V:FnB prog 5:=⟨kr⟩
instance b9K:FnB prog 6:=⟨kr⟩
instance b9z:FnB prog 7:=⟨kr⟩
instance b9o:FnB prog 8:=⟨kr⟩
instance b9d:FnB prog 9:=⟨kr⟩
instance c5p:FnB prog 10:=⟨kr⟩
instance c5e:FnB prog 11:=⟨kr⟩
instance c4T:FnB prog 12:=⟨kr⟩
instance c4I:FnB prog 13:=⟨kr⟩
instance c4y:FnB prog 14:=⟨kr⟩
instance c4p:FnB prog 15:=⟨kr⟩
instance c4e:FnB prog 16:=⟨kr⟩
instance c3V:FnB prog 17:=⟨kr⟩
instance c3M:FnB prog 18:=⟨kr⟩
instance c3B:FnB prog 19:=⟨kr⟩
instance c3q:FnB prog 20:=⟨kr⟩
instance c3k:FnB prog 21:=⟨kr⟩
instance c3b:FnB prog 22:=⟨kr⟩
instance c2R:FnB prog 23:=⟨kr⟩
instance c2G:FnB prog 24:=⟨kr⟩
instance c2B:FnB prog 25:=⟨kr⟩
instance c2v:FnB prog 26:=⟨kr⟩
instance c2k:FnB prog 27:=⟨kr⟩
instance c1Z:FnB prog 28:=⟨kr⟩
instance c1R:FnB prog 29:=⟨kr⟩
instance c1I:FnB prog 30:=⟨kr⟩
instance c1C:FnB prog 31:=⟨kr⟩
instance c1A:FnB prog 32:=⟨kr⟩
instance c1x:FnB prog 33:=⟨kr⟩
instance c1t:FnB prog 34:=⟨kr⟩
instance c1l:FnB prog 35:=⟨kr⟩
instance c0Z:FnB prog 36:=⟨kr⟩
instance c0Q:FnB prog 37:=⟨kr⟩
instance c0M:FnB prog 38:=⟨kr⟩
instance c0L:FnB prog 39:=⟨kr⟩
instance c0G:FnB prog 40:=⟨kr⟩
instance c0A:FnB prog 41:=⟨kr⟩
instance c0r:FnB prog 42:=⟨kr⟩
instance c0m:FnB prog 43:=⟨kr⟩
instance c0h:FnB prog 44:=⟨kr⟩
instance c0d:FnB prog 45:=⟨kr⟩
instance b9Z:FnB prog 46:=⟨kr⟩
instance b9Y:FnB prog 47:=⟨kr⟩
instance b9X:FnB prog 48:=⟨kr⟩
instance b9W:FnB prog 49:=⟨kr⟩
instance b9U:FnB prog 50:=⟨kr⟩
instance b9T:FnB prog 51:=⟨kr⟩
instance b9S:FnB prog 52:=⟨kr⟩
instance b9R:FnB prog 53:=⟨kr⟩
instance b9Q:FnB prog 54:=⟨kr⟩
instance b9P:FnB prog 55:=⟨kr⟩
instance b9O:FnB prog 56:=⟨kr⟩
instance b9N:FnB prog 57:=⟨kr⟩
instance b9M:FnB prog 58:=⟨kr⟩
instance b9L:FnB prog 59:=⟨kr⟩
instance b9J:FnB prog 60:=⟨kr⟩
instance b9I:FnB prog 61:=⟨kr⟩
instance b9H:FnB prog 62:=⟨kr⟩
instance b9G:FnB prog 63:=⟨kr⟩
instance b9F:FnB prog 64:=⟨kr⟩
instance b9E:FnB prog 65:=⟨kr⟩
instance b9D:FnB prog 66:=⟨kr⟩
instance b9C:FnB prog 67:=⟨kr⟩
instance b9B:FnB prog 68:=⟨kr⟩
instance b9A:FnB prog 69:=⟨kr⟩
instance b9y:FnB prog 70:=⟨kr⟩
instance b9x:FnB prog 71:=⟨kr⟩
instance b9w:FnB prog 72:=⟨kr⟩
instance b9v:FnB prog 73:=⟨kr⟩
instance b9u:FnB prog 74:=⟨kr⟩
instance b9t:FnB prog 75:=⟨kr⟩
instance b9s:FnB prog 76:=⟨kr⟩
instance b9r:FnB prog 77:=⟨kr⟩
instance b9q:FnB prog 78:=⟨kr⟩
instance b9p:FnB prog 79:=⟨kr⟩
instance b9n:FnB prog 80:=⟨kr⟩
instance b9m:FnB prog 81:=⟨kr⟩
instance b9l:FnB prog 82:=⟨kr⟩
instance b9k:FnB prog 83:=⟨kr⟩
instance b9j:FnB prog 84:=⟨kr⟩
instance b9i:FnB prog 85:=⟨kr⟩
instance b9h:FnB prog 86:=⟨kr⟩
instance b9g:FnB prog 87:=⟨kr⟩
instance b9f:FnB prog 88:=⟨kr⟩
instance b9e:FnB prog 89:=⟨kr⟩
instance b9c:FnB prog 90:=⟨kr⟩
instance b9b:FnB prog 91:=⟨kr⟩
instance b9a:FnB prog 92:=⟨kr⟩
instance b8Z:FnB prog 93:=⟨kr⟩
instance b8Y:FnB prog 94:=⟨kr⟩
instance b8X:FnB prog 95:=⟨kr⟩
instance b8W:FnB prog 96:=⟨kr⟩
instance b8V:FnB prog 97:=⟨kr⟩
instance b8U:FnB prog 98:=⟨kr⟩
instance b8T:FnB prog 99:=⟨kr⟩
instance c5o:FnB prog 100:=⟨kr⟩
instance c5n:FnB prog 101:=⟨kr⟩
instance c5m:FnB prog 102:=⟨kr⟩
instance c5l:FnB prog 103:=⟨kr⟩
instance c5k:FnB prog 104:=⟨kr⟩
instance c5j:FnB prog 105:=⟨kr⟩
instance c5i:FnB prog 106:=⟨kr⟩
instance c5h:FnB prog 107:=⟨kr⟩
instance c5g:FnB prog 108:=⟨kr⟩
instance c5f:FnB prog 109:=⟨kr⟩
instance c5d:FnB prog 110:=⟨kr⟩
instance c5c:FnB prog 111:=⟨kr⟩
instance c5b:FnB prog 112:=⟨kr⟩
instance c5a:FnB prog 113:=⟨kr⟩
instance c4Z:FnB prog 114:=⟨kr⟩
instance c4Y:FnB prog 115:=⟨kr⟩
instance c4X:FnB prog 116:=⟨kr⟩
instance c4W:FnB prog 117:=⟨kr⟩
instance c4V:FnB prog 118:=⟨kr⟩
instance c4U:FnB prog 119:=⟨kr⟩
instance c4S:FnB prog 120:=⟨kr⟩
instance c4R:FnB prog 121:=⟨kr⟩
instance c4Q:FnB prog 122:=⟨kr⟩
instance c4P:FnB prog 123:=⟨kr⟩
instance c4O:FnB prog 124:=⟨kr⟩
instance c4N:FnB prog 125:=⟨kr⟩
instance c4M:FnB prog 126:=⟨kr⟩
instance c4L:FnB prog 127:=⟨kr⟩
instance c4K:FnB prog 128:=⟨kr⟩
instance c4J:FnB prog 129:=⟨kr⟩
instance c4H:FnB prog 130:=⟨kr⟩
instance c4G:FnB prog 131:=⟨kr⟩
instance c4F:FnB prog 132:=⟨kr⟩
instance c4E:FnB prog 133:=⟨kr⟩
instance c4D:FnB prog 134:=⟨kr⟩
instance c4C:FnB prog 135:=⟨kr⟩
instance c4B:FnB prog 136:=⟨kr⟩
instance c4A:FnB prog 137:=⟨kr⟩
instance c4z:FnB prog 138:=⟨kr⟩
instance c4x:FnB prog 141:=⟨kr⟩
instance c4w:FnB prog 142:=⟨kr⟩
instance c4v:FnB prog 144:=⟨kr⟩
instance c4u:FnB prog 145:=⟨kr⟩
instance c4t:FnB prog 146:=⟨kr⟩
instance c4s:FnB prog 147:=⟨kr⟩
instance c4r:FnB prog 148:=⟨kr⟩
instance c4q:FnB prog 149:=⟨kr⟩
instance c4o:FnB prog 150:=⟨kr⟩
instance c4n:FnB prog 151:=⟨kr⟩
instance c4m:FnB prog 152:=⟨kr⟩
instance c4l:FnB prog 153:=⟨kr⟩
instance c4k:FnB prog 154:=⟨kr⟩
instance c4j:FnB prog 155:=⟨kr⟩
instance c4i:FnB prog 156:=⟨kr⟩
instance c4h:FnB prog 157:=⟨kr⟩
instance c4g:FnB prog 158:=⟨kr⟩
instance c4f:FnB prog 159:=⟨kr⟩
instance c4d:FnB prog 161:=⟨kr⟩
instance c4c:FnB prog 162:=⟨kr⟩
instance c4b:FnB prog 163:=⟨kr⟩
instance c4a:FnB prog 164:=⟨kr⟩
instance c3Z:FnB prog 165:=⟨kr⟩
instance c3Y:FnB prog 166:=⟨kr⟩
instance c3X:FnB prog 167:=⟨kr⟩
instance c3W:FnB prog 168:=⟨kr⟩
instance c3U:FnB prog 170:=⟨kr⟩
instance c3T:FnB prog 171:=⟨kr⟩
instance c3S:FnB prog 172:=⟨kr⟩
instance c3R:FnB prog 175:=⟨kr⟩
instance c3Q:FnB prog 176:=⟨kr⟩
instance c3P:FnB prog 177:=⟨kr⟩
instance c3O:FnB prog 178:=⟨kr⟩
instance c3N:FnB prog 179:=⟨kr⟩
instance c3L:FnB prog 180:=⟨kr⟩
instance c3K:FnB prog 181:=⟨kr⟩
instance c3J:FnB prog 182:=⟨kr⟩
instance c3I:FnB prog 183:=⟨kr⟩
instance c3H:FnB prog 184:=⟨kr⟩
instance c3G:FnB prog 185:=⟨kr⟩
instance c3F:FnB prog 186:=⟨kr⟩
instance c3E:FnB prog 187:=⟨kr⟩
instance c3D:FnB prog 188:=⟨kr⟩
instance c3C:FnB prog 189:=⟨kr⟩
instance c3A:FnB prog 190:=⟨kr⟩
instance c3z:FnB prog 191:=⟨kr⟩
instance c3y:FnB prog 192:=⟨kr⟩
instance c3x:FnB prog 193:=⟨kr⟩
instance c3w:FnB prog 194:=⟨kr⟩
instance c3v:FnB prog 195:=⟨kr⟩
instance c3u:FnB prog 196:=⟨kr⟩
instance c3t:FnB prog 197:=⟨kr⟩
instance c3s:FnB prog 198:=⟨kr⟩
instance c3r:FnB prog 199:=⟨kr⟩
instance c3p:FnB prog 200:=⟨kr⟩
instance c3o:FnB prog 203:=⟨kr⟩
instance c3n:FnB prog 204:=⟨kr⟩
instance c3m:FnB prog 208:=⟨kr⟩
instance c3l:FnB prog 209:=⟨kr⟩
instance c3j:FnB prog 210:=⟨kr⟩
instance c3i:FnB prog 211:=⟨kr⟩
instance c3h:FnB prog 212:=⟨kr⟩
instance c3g:FnB prog 213:=⟨kr⟩
instance c3f:FnB prog 214:=⟨kr⟩
instance c3e:FnB prog 215:=⟨kr⟩
instance c3d:FnB prog 216:=⟨kr⟩
instance c3c:FnB prog 217:=⟨kr⟩
instance c3a:FnB prog 221:=⟨kr⟩
instance c2Z:FnB prog 222:=⟨kr⟩
instance c2Y:FnB prog 223:=⟨kr⟩
instance c2X:FnB prog 224:=⟨kr⟩
instance c2W:FnB prog 225:=⟨kr⟩
instance c2V:FnB prog 226:=⟨kr⟩
instance c2U:FnB prog 227:=⟨kr⟩
instance c2T:FnB prog 228:=⟨kr⟩
instance c2S:FnB prog 229:=⟨kr⟩
instance c2Q:FnB prog 230:=⟨kr⟩
instance c2P:FnB prog 231:=⟨kr⟩
instance c2O:FnB prog 232:=⟨kr⟩
instance c2N:FnB prog 233:=⟨kr⟩
instance c2M:FnB prog 234:=⟨kr⟩
instance c2L:FnB prog 235:=⟨kr⟩
instance c2K:FnB prog 236:=⟨kr⟩
instance c2J:FnB prog 237:=⟨kr⟩
instance c2I:FnB prog 238:=⟨kr⟩
instance c2H:FnB prog 239:=⟨kr⟩
instance c2F:FnB prog 240:=⟨kr⟩
instance c2E:FnB prog 242:=⟨kr⟩
instance c2D:FnB prog 243:=⟨kr⟩
instance c2C:FnB prog 244:=⟨kr⟩
instance c2A:FnB prog 255:=⟨kr⟩
instance c2z:FnB prog 256:=⟨kr⟩
instance c2y:FnB prog 257:=⟨kr⟩
instance c2x:FnB prog 258:=⟨kr⟩
instance c2w:FnB prog 259:=⟨kr⟩
instance c2u:FnB prog 260:=⟨kr⟩
instance c2t:FnB prog 261:=⟨kr⟩
instance c2s:FnB prog 262:=⟨kr⟩
instance c2r:FnB prog 263:=⟨kr⟩
instance c2q:FnB prog 264:=⟨kr⟩
instance c2p:FnB prog 265:=⟨kr⟩
instance c2o:FnB prog 266:=⟨kr⟩
instance c2n:FnB prog 267:=⟨kr⟩
instance c2m:FnB prog 268:=⟨kr⟩
instance c2l:FnB prog 269:=⟨kr⟩
instance c2j:FnB prog 270:=⟨kr⟩
instance c2i:FnB prog 271:=⟨kr⟩
instance c2h:FnB prog 272:=⟨kr⟩
instance c2g:FnB prog 273:=⟨kr⟩
instance c2f:FnB prog 274:=⟨kr⟩
instance c2e:FnB prog 275:=⟨kr⟩
instance c2d:FnB prog 276:=⟨kr⟩
instance c2c:FnB prog 277:=⟨kr⟩
instance c2b:FnB prog 278:=⟨kr⟩
instance c2a:FnB prog 279:=⟨kr⟩
instance c1Y:FnB prog 282:=⟨kr⟩
instance c1X:FnB prog 283:=⟨kr⟩
instance c1W:FnB prog 284:=⟨kr⟩
instance c1V:FnB prog 285:=⟨kr⟩
instance c1U:FnB prog 286:=⟨kr⟩
instance c1T:FnB prog 288:=⟨kr⟩
instance c1S:FnB prog 289:=⟨kr⟩
instance c1Q:FnB prog 290:=⟨kr⟩
instance c1P:FnB prog 291:=⟨kr⟩
instance c1O:FnB prog 292:=⟨kr⟩
instance c1N:FnB prog 293:=⟨kr⟩
instance c1M:FnB prog 296:=⟨kr⟩
instance c1L:FnB prog 297:=⟨kr⟩
instance c1K:FnB prog 298:=⟨kr⟩
instance c1J:FnB prog 299:=⟨kr⟩
instance c1H:FnB prog 300:=⟨kr⟩
instance c1G:FnB prog 301:=⟨kr⟩
instance c1F:FnB prog 302:=⟨kr⟩
instance c1E:FnB prog 303:=⟨kr⟩
instance c1D:FnB prog 306:=⟨kr⟩
instance c1B:FnB prog 317:=⟨kr⟩
instance c1z:FnB prog 322:=⟨kr⟩
instance c1y:FnB prog 326:=⟨kr⟩
instance c1w:FnB prog 337:=⟨kr⟩
instance c1v:FnB prog 338:=⟨kr⟩
instance c1u:FnB prog 339:=⟨kr⟩
instance c1s:FnB prog 340:=⟨kr⟩
instance c1r:FnB prog 341:=⟨kr⟩
instance c1q:FnB prog 342:=⟨kr⟩
instance c1p:FnB prog 343:=⟨kr⟩
instance c1o:FnB prog 344:=⟨kr⟩
instance c1n:FnB prog 345:=⟨kr⟩
instance c1m:FnB prog 349:=⟨kr⟩
instance c1k:FnB prog 350:=⟨kr⟩
instance c1j:FnB prog 351:=⟨kr⟩
instance c1i:FnB prog 352:=⟨kr⟩
instance c1h:FnB prog 353:=⟨kr⟩
instance c1g:FnB prog 354:=⟨kr⟩
instance c1f:FnB prog 355:=⟨kr⟩
instance c1e:FnB prog 356:=⟨kr⟩
instance c1d:FnB prog 357:=⟨kr⟩
instance c1c:FnB prog 358:=⟨kr⟩
instance c1b:FnB prog 359:=⟨kr⟩
instance c0Y:FnB prog 360:=⟨kr⟩
instance c0X:FnB prog 361:=⟨kr⟩
instance c0W:FnB prog 362:=⟨kr⟩
instance c0V:FnB prog 363:=⟨kr⟩
instance c0U:FnB prog 364:=⟨kr⟩
instance c0T:FnB prog 365:=⟨kr⟩
instance c0S:FnB prog 366:=⟨kr⟩
instance c0R:FnB prog 367:=⟨kr⟩
instance c0P:FnB prog 374:=⟨kr⟩
instance c0O:FnB prog 376:=⟨kr⟩
instance c0N:FnB prog 377:=⟨kr⟩
instance c0K:FnB prog 393:=⟨kr⟩
instance c0J:FnB prog 396:=⟨kr⟩
instance c0I:FnB prog 397:=⟨kr⟩
instance c0H:FnB prog 398:=⟨kr⟩
instance c0F:FnB prog 401:=⟨kr⟩
instance c0E:FnB prog 403:=⟨kr⟩
instance c0D:FnB prog 406:=⟨kr⟩
instance c0C:FnB prog 407:=⟨kr⟩
instance c0B:FnB prog 409:=⟨kr⟩
instance c0z:FnB prog 410:=⟨kr⟩
instance c0y:FnB prog 411:=⟨kr⟩
instance c0x:FnB prog 412:=⟨kr⟩
instance c0w:FnB prog 413:=⟨kr⟩
instance c0v:FnB prog 414:=⟨kr⟩
instance c0u:FnB prog 415:=⟨kr⟩
instance c0t:FnB prog 416:=⟨kr⟩
instance c0s:FnB prog 417:=⟨kr⟩
instance c0q:FnB prog 420:=⟨kr⟩
instance c0p:FnB prog 425:=⟨kr⟩
instance c0o:FnB prog 426:=⟨kr⟩
instance c0n:FnB prog 429:=⟨kr⟩
instance c0l:FnB prog 430:=⟨kr⟩
instance c0k:FnB prog 435:=⟨kr⟩
instance c0j:FnB prog 437:=⟨kr⟩
instance c0i:FnB prog 439:=⟨kr⟩
instance c0g:FnB prog 440:=⟨kr⟩
instance c0f:FnB prog 445:=⟨kr⟩
instance c0e:FnB prog 447:=⟨kr⟩
instance c0c:FnB prog 453:=⟨kr⟩
end Go.Proofs.YtocpacdnjbjjmaaGreatDoor

namespace Go.Proofs.YtocpacdnjbjjmaaGreatDoor
open Go Tw Av Go.Proofs.Tryz
set_option maxRecDepth 100000
instance b4m:Mixed prog:=⟨kr⟩
instance b0I:TyO prog 3 (.lit (.int .i64 0)):=⟨kr,kr⟩
instance b0E:TyO prog 4 (.lit (.bool false)):=⟨kr,kr⟩
instance b0z:TyO prog 5 (.lit (.int .u8 0)):=⟨kr,kr⟩
instance b0s:TyO prog 9 (str []):=⟨kr,kr⟩
instance b1W:TyE prog 30 120 2 32:=⟨⟨kr,kr⟩,kr,rfl⟩
instance b1V:TyE prog 37 3 1 8:=⟨⟨kr,kr⟩,kr,rfl⟩
instance b0D:TyO prog 40 (.lit (.slice none 0 0)):=⟨kr,kr⟩
instance b1U:TyE prog 40 107 3 32:=⟨⟨kr,kr⟩,kr,rfl⟩
instance b0C:TyO prog 44 (.agg 1 [.lit (.slice none 0 0)]):=⟨kr,kr⟩
instance b0A:TyO prog 48 (hA J7):=⟨kr,kr⟩
instance b0y:TyO prog 50 (.agg 35 [str [],.lit (.int .i64 0),.lit (.int .i64 0),hA J7]):=⟨kr,kr⟩
instance b1R:TyE prog 54 30 1 24:=⟨⟨kr,kr⟩,kr,rfl⟩
instance b1Q:TyE prog 55 63 3 40:=⟨⟨kr,kr⟩,kr,rfl⟩
instance b1P:TyE prog 56 190 15 168:=⟨⟨kr,kr⟩,kr,rfl⟩
instance b0x:TyO prog 57 (.lit (.slice none 0 0)):=⟨kr,kr⟩
instance b1O:TyE prog 57 9 1 16:=⟨⟨kr,kr⟩,kr,rfl⟩
instance b0w:TyO prog 59 (.agg 8 [str [],str [],.lit (.pointer none),.lit (.slice none 0 0),.lit (.slice none 0 0),.lit (.slice none 0 0),.lit (.slice none 0 0),.lit (.bool false)]):=⟨kr,kr⟩
instance b0v:TyO prog 63 (.agg 3 [.lit (.int .i64 0),.lit (.int .i64 0),.lit (.slice none 0 0)]):=⟨kr,kr⟩
instance b0u:TyO prog 70 (.agg 5 [.lit (.int .i64 0),.lit (.int .i64 0),.lit (.int .i64 0),.lit (.int .i64 0),.lit (.slice none 0 0)]):=⟨kr,kr⟩
instance b1N:TyE prog 74 5 1 1:=⟨⟨kr,kr⟩,kr,rfl⟩
instance b1M:TyE prog 81 44 1 24:=⟨⟨kr,kr⟩,kr,rfl⟩
instance b1L:TyE prog 82 50 35 64:=⟨⟨kr,kr⟩,kr,rfl⟩
instance b0t:TyO prog 84 (.agg 8 [str [],str [],.lit (.pointer none),.lit (.slice none 0 0),.lit (.slice none 0 0),.lit (.slice none 0 0),.lit (.slice none 0 0),.lit (.bool false)]):=⟨kr,kr⟩
instance b1K:TyE prog 89 125 2 24:=⟨⟨kr,kr⟩,kr,rfl⟩
instance b0r:TyO prog 91 (.agg 7 [.lit (.int .i64 0),.lit (.map none),.lit (.slice none 0 0),.lit (.bool false),.lit (.bool false),.lit (.int .i64 0),.lit (.int .i64 0)]):=⟨kr,kr⟩
instance b0q:TyO prog 94 (.agg 4 [.lit (.int .u64 0),.lit (.int .u64 0),.lit (.int .u64 0),.lit (.int .u64 0)]):=⟨kr,kr⟩
instance b0p:TyO prog 96 (.agg 7 [str [],.agg 4 [.lit (.int .u64 0),.lit (.int .u64 0),.lit (.int .u64 0),.lit (.int .u64 0)],str [],str []]):=⟨kr,kr⟩
instance b0o:TyO prog 98 (.agg 12 [.lit (.int .i64 0),str [],str [],.agg 7 [str [],.agg 4 [.lit (.int .u64 0),.lit (.int .u64 0),.lit (.int .u64 0),.lit (.int .u64 0)],str [],str []],.lit (.int .i64 0),.lit (.int .i64 0)]):=⟨kr,kr⟩
instance b0n:TyO prog 99 (.lit (.slice none 0 0)):=⟨kr,kr⟩
instance b1J:TyE prog 99 48 32 32:=⟨⟨kr,kr⟩,kr,rfl⟩
instance b1j:TyO prog 101 (.agg 3 [.lit (.int .i64 0),.lit (.int .i64 0),.lit (.slice none 0 0)]):=⟨kr,kr⟩
instance b1i:TyO prog 103 (.agg 9 [.lit (.int .i64 0),.lit (.slice none 0 0),.lit (.slice none 0 0),.agg 3 [.lit (.int .i64 0),.lit (.int .i64 0),.lit (.slice none 0 0)],.agg 3 [.lit (.int .i64 0),.lit (.int .i64 0),.lit (.slice none 0 0)]]):=⟨kr,kr⟩
instance b1h:TyO prog 105 (.agg 100 [.lit (.int .i64 0),str [],str [],str [],str [],str [],.lit (.int .i64 0),.agg 35 [str [],.lit (.int .i64 0),.lit (.int .i64 0),hA J7],hA J7,.agg 12 [.lit (.int .i64 0),str [],str [],.agg 7 [str [],.agg 4 [.lit (.int .u64 0),.lit (.int .u64 0),.lit (.int .u64 0),.lit (.int .u64 0)],str [],str []],.lit (.int .i64 0),.lit (.int .i64 0)],str [],.lit (.int .i64 0),.agg 3 [.lit (.int .i64 0),.lit (.int .i64 0),.lit (.slice none 0 0)],.agg 9 [.lit (.int .i64 0),.lit (.slice none 0 0),.lit (.slice none 0 0),.agg 3 [.lit (.int .i64 0),.lit (.int .i64 0),.lit (.slice none 0 0)],.agg 3 [.lit (.int .i64 0),.lit (.int .i64 0),.lit (.slice none 0 0)]]]):=⟨kr,kr⟩
instance b1g:TyO prog 107 (.agg 3 [.lit (.int .i64 0),.lit (.int .i64 0),str []]):=⟨kr,kr⟩
instance b1f:TyO prog 114 (.agg 6 [.lit (.slice none 0 0),.lit (.slice none 0 0),.lit (.bool false),.lit (.bool false),.lit (.int .i64 0),.lit (.int .i64 0)]):=⟨kr,kr⟩
instance b1e:TyO prog 115 (.agg 4 [str [],str [],str [],str []]):=⟨kr,kr⟩
instance b1d:TyO prog 120 (.agg 2 [str [],str []]):=⟨kr,kr⟩
instance b1c:TyO prog 125 (.agg 2 [.lit (.int .i64 0),str []]):=⟨kr,kr⟩
instance b1b:TyO prog 134 (.agg 3 [.lit (.int .i64 0),.lit (.int .i64 0),.lit (.int .i64 0)]):=⟨kr,kr⟩
instance b1a:TyO prog 139 (.agg 2 [.lit (.pointer none),.lit (.slice none 0 0)]):=⟨kr,kr⟩
instance b0Z:TyO prog 148 (.agg 6 [.lit (.pointer none),.agg 3 [.lit (.int .i64 0),.lit (.int .i64 0),.lit (.int .i64 0)],str [],.lit (.bool false)]):=⟨kr,kr⟩
instance b0Y:TyO prog 151 (.lit (.pointer none)):=⟨kr,kr⟩
instance b0X:TyO prog 161 (.agg 4 [.lit (.slice none 0 0),.agg 3 [.lit (.int .i64 0),.lit (.int .i64 0),str []]]):=⟨kr,kr⟩
instance b0W:TyO prog 164 (.agg 6 [.lit (.pointer none),.agg 3 [.lit (.int .i64 0),.lit (.int .i64 0),.lit (.int .i64 0)],str [],.lit (.bool false)]):=⟨kr,kr⟩
instance b0V:TyO prog 169 (.agg 2 [str [],.lit (.bool false)]):=⟨kr,kr⟩
instance b0U:TyO prog 171 (.agg 3 [.lit (.slice none 0 0),.lit (.slice none 0 0),.lit (.slice none 0 0)]):=⟨kr,kr⟩
instance b0T:TyO prog 190 (.agg 15 [.lit (.int .i64 0),.lit (.int .i64 0),.agg 12 [.lit (.int .i64 0),str [],str [],.agg 7 [str [],.agg 4 [.lit (.int .u64 0),.lit (.int .u64 0),.lit (.int .u64 0),.lit (.int .u64 0)],str [],str []],.lit (.int .i64 0),.lit (.int .i64 0)],str []]):=⟨kr,kr⟩
instance b0S:TyO prog 201 (.agg 2 [str [],.lit (.bool false)]):=⟨kr,kr⟩
instance b0R:TyO prog 216 (.agg 4 [.lit (.int .i64 0),str [],str [],str []]):=⟨kr,kr⟩
instance b0Q:TyO prog 222 (.lit (.int .u32 0)):=⟨kr,kr⟩
instance b1Z:TyE prog 225 155 1 8:=⟨⟨kr,kr⟩,kr,rfl⟩
instance b0P:TyO prog 226 (.agg 64 [.lit (.int .u8 0),.lit (.int .u8 0),.lit (.int .u8 0),.lit (.int .u8 0),.lit (.int .u8 0),.lit (.int .u8 0),.lit (.int .u8 0),.lit (.int .u8 0),.lit (.int .u8 0),.lit (.int .u8 0),.lit (.int .u8 0),.lit (.int .u8 0),.lit (.int .u8 0),.lit (.int .u8 0),.lit (.int .u8 0),.lit (.int .u8 0),.lit (.int .u8 0),.lit (.int .u8 0),.lit (.int .u8 0),.lit (.int .u8 0),.lit (.int .u8 0),.lit (.int .u8 0),.lit (.int .u8 0),.lit (.int .u8 0),.lit (.int .u8 0),.lit (.int .u8 0),.lit (.int .u8 0),.lit (.int .u8 0),.lit (.int .u8 0),.lit (.int .u8 0),.lit (.int .u8 0),.lit (.int .u8 0),.lit (.int .u8 0),.lit (.int .u8 0),.lit (.int .u8 0),.lit (.int .u8 0),.lit (.int .u8 0),.lit (.int .u8 0),.lit (.int .u8 0),.lit (.int .u8 0),.lit (.int .u8 0),.lit (.int .u8 0),.lit (.int .u8 0),.lit (.int .u8 0),.lit (.int .u8 0),.lit (.int .u8 0),.lit (.int .u8 0),.lit (.int .u8 0),.lit (.int .u8 0),.lit (.int .u8 0),.lit (.int .u8 0),.lit (.int .u8 0),.lit (.int .u8 0),.lit (.int .u8 0),.lit (.int .u8 0),.lit (.int .u8 0),.lit (.int .u8 0),.lit (.int .u8 0),.lit (.int .u8 0),.lit (.int .u8 0),.lit (.int .u8 0),.lit (.int .u8 0),.lit (.int .u8 0),.lit (.int .u8 0)]):=⟨kr,kr⟩
instance b0O:TyO prog 227 (.agg 3 [.lit (.int .i64 0),.lit (.int .i64 0),.lit (.int .i64 0)]):=⟨kr,kr⟩
instance b1Y:TyE prog 232 222 1 4:=⟨⟨kr,kr⟩,kr,rfl⟩
instance b0N:TyO prog 234 (.agg 2 [.lit (.slice none 0 0),.lit (.slice none 0 0)]):=⟨kr,kr⟩
instance b0M:TyO prog 256 (.agg 3 [.agg 1 [.lit (.slice none 0 0)],.lit (.int .i64 0),.lit (.int .i64 0)]):=⟨kr,kr⟩
instance b0L:TyO prog 263 (.lit .nilFunc):=⟨kr,kr⟩
instance b1X:TyE prog 267 289 34 48:=⟨⟨kr,kr⟩,kr,rfl⟩
instance b0K:TyO prog 269 (.agg 5 [str [],str [],.lit (.int .i64 0),.lit (.bool false),.lit (.slice none 0 0)]):=⟨kr,kr⟩
instance b0J:TyO prog 289 (.agg 34 [.lit (.int .i64 0),.lit (.int .i64 0),hA J7]):=⟨kr,kr⟩
instance b0H:TyO prog 311 (.agg 64 [.agg 64 [.lit (.int .u8 0),.lit (.int .u8 0),.lit (.int .u8 0),.lit (.int .u8 0),.lit (.int .u8 0),.lit (.int .u8 0),.lit (.int .u8 0),.lit (.int .u8 0),.lit (.int .u8 0),.lit (.int .u8 0),.lit (.int .u8 0),.lit (.int .u8 0),.lit (.int .u8 0),.lit (.int .u8 0),.lit (.int .u8 0),.lit (.int .u8 0),.lit (.int .u8 0),.lit (.int .u8 0),.lit (.int .u8 0),.lit (.int .u8 0),.lit (.int .u8 0),.lit (.int .u8 0),.lit (.int .u8 0),.lit (.int .u8 0),.lit (.int .u8 0),.lit (.int .u8 0),.lit (.int .u8 0),.lit (.int .u8 0),.lit (.int .u8 0),.lit (.int .u8 0),.lit (.int .u8 0),.lit (.int .u8 0),.lit (.int .u8 0),.lit (.int .u8 0),.lit (.int .u8 0),.lit (.int .u8 0),.lit (.int .u8 0),.lit (.int .u8 0),.lit (.int .u8 0),.lit (.int .u8 0),.lit (.int .u8 0),.lit (.int .u8 0),.lit (.int .u8 0),.lit (.int .u8 0),.lit (.int .u8 0),.lit (.int .u8 0),.lit (.int .u8 0),.lit (.int .u8 0),.lit (.int .u8 0),.lit (.int .u8 0),.lit (.int .u8 0),.lit (.int .u8 0),.lit (.int .u8 0),.lit (.int .u8 0),.lit (.int .u8 0),.lit (.int .u8 0),.lit (.int .u8 0),.lit (.int .u8 0),.lit (.int .u8 0),.lit (.int .u8 0),.lit (.int .u8 0),.lit (.int .u8 0),.lit (.int .u8 0),.lit (.int .u8 0)]]):=⟨kr,kr⟩
instance b0G:TyO prog 317 (.agg 8 [.lit (.int .u32 0),.lit (.int .u32 0),.lit (.int .u32 0),.lit (.int .u32 0),.lit (.int .u32 0),.lit (.int .u32 0),.lit (.int .u32 0),.lit (.int .u32 0)]):=⟨kr,kr⟩
instance b0F:TyO prog 354 (.agg 64 [.lit (.int .u32 0),.lit (.int .u32 0),.lit (.int .u32 0),.lit (.int .u32 0),.lit (.int .u32 0),.lit (.int .u32 0),.lit (.int .u32 0),.lit (.int .u32 0),.lit (.int .u32 0),.lit (.int .u32 0),.lit (.int .u32 0),.lit (.int .u32 0),.lit (.int .u32 0),.lit (.int .u32 0),.lit (.int .u32 0),.lit (.int .u32 0),.lit (.int .u32 0),.lit (.int .u32 0),.lit (.int .u32 0),.lit (.int .u32 0),.lit (.int .u32 0),.lit (.int .u32 0),.lit (.int .u32 0),.lit (.int .u32 0),.lit (.int .u32 0),.lit (.int .u32 0),.lit (.int .u32 0),.lit (.int .u32 0),.lit (.int .u32 0),.lit (.int .u32 0),.lit (.int .u32 0),.lit (.int .u32 0),.lit (.int .u32 0),.lit (.int .u32 0),.lit (.int .u32 0),.lit (.int .u32 0),.lit (.int .u32 0),.lit (.int .u32 0),.lit (.int .u32 0),.lit (.int .u32 0),.lit (.int .u32 0),.lit (.int .u32 0),.lit (.int .u32 0),.lit (.int .u32 0),.lit (.int .u32 0),.lit (.int .u32 0),.lit (.int .u32 0),.lit (.int .u32 0),.lit (.int .u32 0),.lit (.int .u32 0),.lit (.int .u32 0),.lit (.int .u32 0),.lit (.int .u32 0),.lit (.int .u32 0),.lit (.int .u32 0),.lit (.int .u32 0),.lit (.int .u32 0),.lit (.int .u32 0),.lit (.int .u32 0),.lit (.int .u32 0),.lit (.int .u32 0),.lit (.int .u32 0),.lit (.int .u32 0),.lit (.int .u32 0)]):=⟨kr,kr⟩
instance b1T:TyE prog 421 390 1 8:=⟨⟨kr,kr⟩,kr,rfl⟩
instance b1S:TyE prog 437 440 3 24:=⟨⟨kr,kr⟩,kr,rfl⟩
instance b0B:TyO prog 440 (.agg 3 [.lit (.bool false),.lit (.int .i64 0),.lit (.int .i64 0)]):=⟨kr,kr⟩
end Go.Proofs.YtocpacdnjbjjmaaGreatDoor

namespace Go.Proofs.YtocpacdnjbjjmaaGreatDoor
open Go Tw Av Go.Proofs.Tryz
set_option maxRecDepth 100000
instance b2a:TyB prog 4:=⟨kr⟩
instance b4h:NoG prog 48:=⟨kr⟩
instance b0a:TyQ prog 50 [(9,0,1),(3,1,1),(3,2,1),(48,3,32)]:=⟨kr,kr⟩
instance b4g:NoG prog 50:=⟨kr⟩
instance b4f:NoG prog 94:=⟨kr⟩
instance a9Z:TyQ prog 96 [(9,0,1),(94,1,4),(9,5,1),(9,6,1)]:=⟨kr,kr⟩
instance a9Y:TyQ prog 98 [(3,0,1),(9,1,1),(9,2,1),(96,3,7),(3,10,1),(3,11,1)]:=⟨kr,kr⟩
instance b0e:TyQ prog 107 [(25,0,1),(3,1,1),(9,2,1)]:=⟨kr,kr⟩
instance b4l:NoG prog 107:=⟨kr⟩
instance b0d:TyQ prog 120 [(9,0,1),(9,1,1)]:=⟨kr,kr⟩
instance b4k:NoG prog 120:=⟨kr⟩
instance b0c:TyQ prog 190 [(3,0,1),(3,1,1),(98,2,12),(9,14,1)]:=⟨kr,kr⟩
instance b4j:NoG prog 190:=⟨kr⟩
instance b0b:TyQ prog 289 [(3,0,1),(3,1,1),(48,2,32)]:=⟨kr,kr⟩
instance b4i:NoG prog 289:=⟨kr⟩
end Go.Proofs.YtocpacdnjbjjmaaGreatDoor

namespace Tw
open Go Go.RowKit
structure Wk (p:Prop):Prop where
 o:p
theorem wk {G G':Prop}(h:G')(i:Wk G'->G:=by
 intro h;first
 | (apply XT;exact rfl;exact rfl;exact h.o)
 | (apply XY;exact rfl;exact rfl;exact h.o)
 | (apply YD;exact h.o)
 | (apply YE;exact h.o)
 | (apply wc_scope;exact h.o)
 | (apply wc_label;exact h.o)
 | (apply we_noGoto;exact h.o)
 | (apply we_noGotoR;exact h.o)
 | (apply we_noGotoX;exact h.o)
 | (apply Tm;exact h.o)
 | (apply Vh;exact h.o)
 | (apply Vp;exact h.o)
 | (apply Vm;exact h.o)
 | (apply Vl;exact h.o)
 | (apply Vk;exact h.o)
 | (apply Vg;exact h.o)
 | (apply we_thenR;exact h.o)
 | (apply Vj;exact h.o)
 | (apply we_blockR;exact h.o)
 | (apply Vi;exact h.o)
 | (apply we_blockO;exact rfl;exact h.o)
 | (apply Tu;assumption;exact rfl;(repeat (first|exact Has.here|apply Has.there));exact rfl;exact rfl;exact h.o)
 | (apply PT;exact rfl;assumption;exact rfl;exact rfl;exact rfl;exact h.o)
 | (apply wl_loadF;exact rfl;assumption;exact uJ rfl;exact rfl;exact rfl;exact h.o)
 | (apply Uk;exact rfl;exact rfl;exact rfl;exact rfl;exact h.o)
 | (apply Us;exact rfl;exact rfl;exact rfl;exact h.o)
 | (apply XX;exact rfl;exact rfl;exact rfl;exact rfl;exact h.o)
 | (apply Ur;exact rfl;exact rfl;exact rfl;omega;omega;exact rfl;exact h.o)
 | (apply XZ;exact rfl;exact rfl;exact rfl;exact rfl;exact h.o)
 | (apply Uj;exact rfl;exact rfl;exact rfl;exact rfl;exact h.o)
 | (apply DN 8 256;exact rfl;exact rfl;exact rfl;exact rfl;exact rfl;exact h.o)
 | (apply DN 16 65536;exact rfl;exact rfl;exact rfl;exact rfl;exact rfl;exact h.o)
 | (apply Tv;exact rfl;exact rfl;exact h.o)
 | (apply JF;exact rfl;exact rfl;omega;exact rfl;exact h.o)
 | (apply Ui;exact rfl;exact rfl;exact h.o)
 | (apply JE;exact rfl;exact rfl;exact h.o)
 | (apply Ud;exact rfl;exact rfl;exact rfl;exact rfl;exact rfl;exact h.o)
 | (apply Uf;exact rfl;exact rfl;exact rfl;exact rfl;exact h.o)
 | (apply Tk;exact rfl;exact rfl;exact h.o)
 | (apply wl_extract;exact rfl;exact rfl;exact rfl;exact h.o)
 | (apply XV;exact rfl;exact rfl;exact rfl;exact rfl;exact h.o)
 | (apply Un;exact rfl;exact rfl;exact rfl;exact h.o)
 | (apply Tc;exact rfl;exact rfl;exact rfl;exact rfl;exact h.o)
 | (apply wl_sliN;exact rfl;exact rfl;exact rfl;exact rfl;exact h.o)
 | (apply Td;exact rfl;exact rfl;exact rfl;exact h.o)
 | (apply Te;exact rfl;exact rfl;exact rfl;exact h.o)
 | (apply Tf;exact rfl;exact rfl;exact h.o)
 | (apply Ti;exact rfl;exact rfl;exact rfl;exact h.o)
 | (apply wl_notD;exact rfl;exact rfl;exact h.o)
 | (apply Tj;exact rfl;exact rfl;exact h.o)
 | (apply Tz;exact rfl;exact rfl;exact h.o)
 | (apply Ta;exact rfl;exact rfl;exact h.o)
 | (apply Vn;exact rfl;exact h.o)
 | (apply Vo;exact rfl;exact h.o)):G:=i ⟨h⟩
theorem l9 {G H:Prop}(h:H)(i:Wk H->G:=by
 intro h;first
 | (apply YB;assumption;exact rfl;exact h.o)
 | (apply wl_boxS;assumption;exact rfl;exact rfl;exact rfl;exact h.o)
 | (apply Uo;assumption;exact rfl;exact rfl;exact rfl;exact h.o)
 | (apply Sz;assumption;exact rfl;exact rfl;(repeat (first|exact Upd.here|apply Upd.there));exact rfl;exact rfl;exact rfl;exact h.o)
 | (apply Sw;assumption;exact rfl;exact rfl;(repeat (first|exact Upd.here|apply Upd.there));exact rfl;exact rfl;exact rfl;exact h.o)
 | (apply Um;assumption;exact rfl;exact rfl;exact rfl;exact rfl;exact rfl;exact rfl;exact rfl;exact rfl;exact rfl;exact h.o)):G:=i ⟨h⟩
end Tw
